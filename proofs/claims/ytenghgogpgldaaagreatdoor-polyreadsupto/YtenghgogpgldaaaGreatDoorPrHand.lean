/- Contracts of strings.Builder and strconv.Itoa. -/
import Derived.Test.YtenghgogpgldaaaGreatDoorPrTy
import Derived.Test.YtenghgogpgldaaaGreatDoorPrHandB
import Derived.Shelf.Strconv.Itoa4
import Derived.KernelRfl
import Derived.Shelf.Sort.Plain
namespace Go.Ab
open Go Go.Proofs Go.Shelf
set_option maxRecDepth 100000
def Aae:Ren:={f:=fun x=>match x with | 171=>145 | 243=>215 | 246=>289 | 283=>316 | 284=>317 | 285=>318 | 286=>319 | 129=>189 | 317=>356 | 318=>357 | 319=>358 | 320=>359 | 337=>378 | 338=>379 | 173=>217 | n=>n,t:=fun x=>match x with | 3=>3 | 9=>9 | 2=>2 | 4=>4 | 171=>359 | 0=>0 | 53=>140 | 37=>185 | 5=>5 | 173=>361 | 212=>390 | 51=>133 | 20=>20 | 213=>391 | 46=>164 | 232=>423 | 233=>424 | n=>n,g:=fun x=>match x with | 17=>0 | 18=>1 | 19=>2 | n=>n}
theorem Aaf:LaysM.n171 Go.Proofs.Tryz.prog Aae:=by
 constructor
 constructor
 all_goals first | kernel_rfl | (intro w; kernel_rfl)
theorem St.grown {σ:An} {F:An} {W w:World} (s:St σ ι0 H0 F W w) (k:Nat) (os:Array Obj):St σ ι0 H0 F W (Sort.grow (w.drewN k) os):=by
 have hk:∀(b:Nat) (o:Obj),w.heap[b]? = some o->(Sort.grow (w.drewN k) os).heap[b]? = some o:=by
  intro b o h
  have c:=(Array.getElem?_eq_some_iff.1 h).1
  show (w.heap++os)[b]? = _
  rw [Array.getElem?_append_left c]; exact h
 exact ⟨fun b o h=>hk b o (s.sto b o h),fun b o h=>⟨hk b o (s.fra b o h).1,(s.fra b o h).2⟩,fun _=>rfl,(fun _ _ _ f=>by cases f),s.os,s.tape,s.output,s.glo⟩
theorem Aag {σ:An} {ι:A9} {H:Hp} {F:An} {W w:World} (s:St σ ι H F W w):Lib.TabIs Go.Proofs.Tryz.prog w "internal/strconv.uint64pow10" .u64 Lib.pow10Tab:=by
 obtain ⟨E,fr,e⟩:=s.glo
 have h:=s.sto _ _ e
 have g:Go.Proofs.Tryz.prog.globalNamed "internal/strconv.uint64pow10" = some 0:=Aaf.m17
 unfold Lib.TabIs World.var?
 rw [g]
 simp only [Option.bind_some,h]
theorem Mh {σ:An} {ι:A9} {H:Hp} {x:AV} {vs:Array Value} (h:G6 σ ι H [x] vs):∃v,vs = #[v]/\Conc σ ι H x v:=by
 obtain ⟨h1,h2⟩:=h
 have h1:vs.size=1:=h1
 refine ⟨vs[0],?_,h2 0 x _ rfl (by simp [h1])⟩
 apply Array.ext
 .simp [h1]
 .intro i c b
  have:i=0:=by omega
  subst this; rfl
theorem Ag0 {a0:Int} {r:ByteArray} (h:Lr a0=some r):Aq Go.Proofs.Tryz.prog 145 [O .i64 a0] (Dk r):=by
 unfold Lr at h
 split at h
 .rename_i hc
  cases h
  refine ⟨⟨_,Tryz.func145,by kernel_rfl,by kernel_rfl⟩,fun σ F W w vs s b=>?_⟩
  obtain ⟨v,rfl,c⟩:=Mh b
  have c:=c.val_inv
  subst c
  have:=Any.strconv_Itoa Aaf a0 hc.1 hc.2 w (Aag s)
  refine this.mono ?_
  rintro e w' ⟨rfl,k,os,rfl⟩
  exact ⟨_,σ,rfl,An.le_refl σ,s.grown k os,.of_val _⟩
 .cases h
theorem Ag1:LaysM.n173 Go.Proofs.Tryz.prog Aae:=by
 constructor
 constructor
 all_goals first | kernel_rfl | (intro w; kernel_rfl)
theorem Ag2 {σ:An} {ι:A9} {H:Hp} {x y:AV} {vs:Array Value} (h:G6 σ ι H [x,y] vs):∃v u,vs = #[v,u]/\Conc σ ι H x v/\Conc σ ι H y u:=by
 obtain ⟨h1,h2⟩:=h
 have h1:vs.size=2:=h1
 refine ⟨vs[0],vs[1],?_,h2 0 x _ rfl (by simp [h1]),h2 1 y _ rfl (by simp [h1])⟩
 apply Array.ext
 .simp [h1]
 .intro i c b
  rcases (by omega:i=0\/i=1) with h | h
  .subst h; rfl
  .subst h; rfl
theorem Ag3 {a0 a1:Int} {r:ByteArray} (h:T9 a0 a1=some r):Aq Go.Proofs.Tryz.prog 217 [O .i64 a0,O .i64 a1] (Dk r):=by
 unfold T9 at h
 cases hb:a1==10 with
 | false=>rw [hb] at h; cases h
 | true=>
  rw [hb] at h
  have hb:=eq_of_beq hb
  subst hb
  have h:Lr a0=some r:=h
  unfold Lr at h
  split at h
  .rename_i hc
   cases h
   refine ⟨⟨_,Tryz.func217,by kernel_rfl,by kernel_rfl⟩,fun σ F W w vs s b=>?_⟩
   obtain ⟨v,u,rfl,c,hu⟩:=Ag2 b
   have c:=c.val_inv
   have hu:=hu.val_inv
   subst c; subst hu
   have:=Any.strconv_FormatInt_10 Ag1 a0 hc.1 hc.2 w (Aag s)
   refine this.mono ?_
   rintro e w' ⟨rfl,k,os,rfl⟩
   exact ⟨_,σ,rfl,An.le_refl σ,s.grown k os,.of_val _⟩
  .cases h
theorem Rm (o:A1) (os:List A1):hp (o::os) 0=o:=rfl
theorem Ag4 (x:AV) (rest:List A1):Bp Go.Proofs.Tryz.prog 213 [.loc 0 0] (.cells 187 [.loc 0 0,x]::rest) (.tup []) (.cells 187 [.loc 0 0,x]::rest):=by
 refine ⟨⟨_,Tryz.func213,by kernel_rfl,by kernel_rfl⟩,fun σ F W w ι vs s f=>?_⟩
 obtain ⟨v,rfl,k⟩:=Mh f
 obtain ⟨b,hb,k⟩:=k.loc_inv
 subst k
 have l:=s.obj 0
 unfold Bn at l
 rw [Rm] at l
 obtain ⟨A,C,y,_,_,h3,u,z⟩:=l
 rw [hb] at y; cases y
 have u:C.size=2:=u
 have g:C[0]? = some C[0]:=by simp [u]
 have q:=z 0 (.loc 0 0) C[0] rfl g
 obtain ⟨b2,h,j⟩:=q.loc_inv
 rw [hb] at h; cases h
 have cell:w.cell? ⟨b,0,none⟩=some (.pointer (some ⟨b,0,none⟩)):=by
  rw [Fi h3,g,j]
 refine (Tryz.check_used b w cell).mono ?_
 rintro e w' ⟨rfl,rfl⟩
 exact ⟨_,σ,ι,rfl,Le.refl _ _ _,s,.tup _ _ rfl (fun i c v h1 _=>by cases h1)⟩
theorem Ag5 (x:AV) (rest:List A1):Bp Go.Proofs.Tryz.prog 213 [.loc 0 0] (.cells 187 [.val (.pointer none),x]::rest) (.tup []) (.cells 187 [.loc 0 0,x]::rest):=by
 refine ⟨⟨_,Tryz.func213,by kernel_rfl,by kernel_rfl⟩,fun σ F W w ι vs s j=>?_⟩
 obtain ⟨v,rfl,q⟩:=Mh j
 obtain ⟨b,hb,q⟩:=q.loc_inv
 subst q
 have u:=s.obj 0
 unfold Bn at u
 rw [Rm] at u
 obtain ⟨I,C,B,_,_,h3,g,A⟩:=u
 rw [hb] at B; cases B
 have g:C.size=2:=g
 have k:C[0]? = some C[0]:=by simp [g]
 have l:=(A 0 (.val (.pointer none)) C[0] rfl k).val_inv
 have cell:w.cell? ⟨b,0,none⟩=some (.pointer none):=by
  rw [Fi h3,k,l]
 refine (Tryz.check_fresh b w cell (by simp [World.shape?,h3,g]) (by simp [World.frozen?,h3])).mono ?_
 rintro e w' ⟨rfl,rfl⟩
 obtain ⟨z,le⟩:=s.setBox 0 187 [.val (.pointer none),x] [.loc 0 0,x] rfl b hb #[.pointer (some ⟨b,0,none⟩),C[1]] rfl (by
  intro i c v h1 h2
  match i with
  | 0=>simp at h1 h2; subst h1; subst h2; exact .loc 0 0 b hb
  | 1=>simp at h1 h2; subst h1; subst h2; exact A 1 x _ rfl (by simp [g])
  | i+2=>simp at h1)
 have E:Au (hp (.cells 187 [.val (.pointer none),x]::rest)) 0 (.cells 187 [.loc 0 0,x])=hp (.cells 187 [.loc 0 0,x]::rest):=by
  funext i
  cases i with
  | zero=>rfl
  | succ i=>rfl
 have D:w.setCell ⟨b,0,none⟩ (.pointer (some ⟨b,0,none⟩))=w.setRow b #[.pointer (some ⟨b,0,none⟩),C[1]]:=by
  have h:C.setIfInBounds 0 (.pointer (some ⟨b,0,none⟩)) = #[.pointer (some ⟨b,0,none⟩),C[1]]:=by
   apply Array.ext
   .simp [g]
   .intro i G y
    match i with
    | 0=>simp
    | 1=>rw [Array.getElem_setIfInBounds_ne _ (by decide)]; rfl
    | i+2=>simp at y; omega
  have f:(w.setCell ⟨b,0,none⟩ (.pointer (some ⟨b,0,none⟩))).heap=(w.setRow b #[.pointer (some ⟨b,0,none⟩),C[1]]).heap:=by
   apply Array.ext_getElem?
   intro i
   simp only [World.setCell,World.setRow,Array.getElem?_modify]
   split
   .rename_i e; subst e
    rw [h3]; simp [h]
   .rfl
  unfold World.setCell World.setRow at f ⊢
  simp only at f
  rw [f]
 rw [E] at z le
 rw [D]
 exact ⟨_,σ,ι,rfl,le,z,.tup _ _ rfl (fun i c v h1 _=>by cases h1)⟩
theorem Ag6 {l:List Int} (h:∀x∈l,0<=x/\x<256) {j:Nat} {x:UInt8} (hx:(Hf l)[j]? = some x):l[j]? = some (x.toNat:Int):=by
 simp only [Hf,List.getElem?_map,Option.map_eq_some_iff] at hx
 obtain ⟨y,hy,rfl⟩:=hx
 have b:=h y (List.mem_of_getElem? hy)
 rw [hy]
 congr 1
 have:y.toNat<256:=by omega
 simp only [UInt8.toNat_ofNat']
 omega
theorem St.kill {σ:An} {ι:A9} {H:Hp} {F:An} {W w:World} (s:St σ ι H F W w) (h:Nat):St σ ι (Au H h .dead) F W w/\Le σ ι H σ ι (Au H h .dead):=by
 have le:Le σ ι H σ ι (Au H h .dead):=by
  have:=Le.upd (ι:=ι) (H:=H) (An.le_refl σ) h (ι h) .dead ⟨fun _ e=>e,(fun _ e=>by cases e),(fun _ k j i e=>by cases e)⟩
  rwa [Ev] at this
 obtain ⟨f1,f2⟩:=s.fresh
 refine ⟨s.touch h w.heap.size (fun _ _=>rfl) (fun x e=>B7 _ _ e) le (fun _ _=>rfl) (fun _ _=>rfl) (fun o g=>by rw [f1] at g; cases g) ?_ f2 ?_ ?_ rfl rfl rfl,le⟩
 .intro x _ c f
  have:=(s.block c f).1
  omega
 .intro b c
  rw [Bm] at c; cases c
 .unfold Bn
  rw [Bm]; trivial
theorem Ag7 {p:AV}:Bp Go.Proofs.Tryz.prog 147 [.loc 0 0] [.cells 187 [p,.arr 1 0 0 0],.rows 5 1 []] (Dk .empty) [.cells 187 [p,.arr 1 0 0 0],.dead]:=by
 refine ⟨⟨_,Tryz.func147,by kernel_rfl,by kernel_rfl⟩,fun σ F W w ι vs s u=>?_⟩
 obtain ⟨v,rfl,G⟩:=Mh u
 obtain ⟨b,hb,G⟩:=G.loc_inv
 subst G
 have I:=s.obj 0
 unfold Bn at I
 rw [Rm] at I
 obtain ⟨b',C,V,_,_,h3,z,Z⟩:=I
 rw [hb] at V; cases V
 have z:C.size=2:=z
 have Y:C = #[C[0],C[1]]:=by
  apply Array.ext
  .simp [z]
  .intro i S J
   match i with
   | 0=>rfl
   | 1=>rfl
   | i+2=>simp at J; omega
 have M:=Z 1 (.arr 1 0 0 0) C[1] rfl (by simp [z])
 have l:hp [A1.cells 187 [p,.arr 1 0 0 0],.rows 5 1 []] 1 = .rows 5 1 []:=rfl
 have c:=M.arr_inv l (by simp)
 have hor:=s.obj 1
 unfold Bn at hor
 rw [l] at hor
 obtain ⟨_,R,hor⟩:=hor
 have eH:Au (hp [A1.cells 187 [p,.arr 1 0 0 0],.rows 5 1 []]) 1 .dead=hp [A1.cells 187 [p,.arr 1 0 0 0],.dead]:=by
  funext i
  match i with
  | 0=>rfl
  | 1=>rfl
  | i+2=>rfl
 have go:∀(a q:Option Addr) (cap:Nat) (y:An) (h:World),C[1] = .slice a 0 cap->h.heap[b]? = w.heap[b]?->(Builtin.unsafeSliceData_ #[185] 256 #[.slice a 0 cap]).run Go.Proofs.Tryz.prog w.drew = .ok (.pointer q) h ->
   Le σ ι (hp [A1.cells 187 [p,.arr 1 0 0 0],.rows 5 1 []]) y ι (hp [A1.cells 187 [p,.arr 1 0 0 0],.rows 5 1 []])->St y ι (hp [A1.cells 187 [p,.arr 1 0 0 0],.rows 5 1 []]) F W h ->
   Calls Go.Proofs.Tryz.prog 147 #[.pointer (some ⟨b,0,none⟩)] w fun e w'=>∃v A B,e = .returned v/\Le σ ι (hp [A1.cells 187 [p,.arr 1 0 0 0],.rows 5 1 []]) A B (hp [A1.cells 187 [p,.arr 1 0 0 0],.dead])/\St A B (hp [A1.cells 187 [p,.arr 1 0 0 0],.dead]) F W w'/\Conc A B (hp [A1.cells 187 [p,.arr 1 0 0 0],.dead]) (Dk .empty) v:=by
  intro a q cap y h f L N le s1
  have x:w.heap[b]? = some (.cells #[C[0],.slice a 0 cap] 187 (0,0)):=by
   rw [h3]; congr 1; rw [<-f,<-Y]
  refine (Tryz.builder_str0 b cap C[0] a q w h x (L.trans x) N).mono ?_
  rintro e w' ⟨rfl,rfl⟩
  obtain ⟨s2,k⟩:=s1.kill 1
  rw [eH] at s2 k
  exact ⟨_,y,ι,rfl,le.trans k,s2,.of_val _⟩
 rcases hor with ⟨S,_⟩ | ⟨g,j,D,X,g1,g2,g3,g4,g5,g6⟩
 .unfold Dr at c
  rw [S] at c
  exact go none none 0 σ w.drew c.1 rfl rfl (Le.refl _ _ _) (s.drew _)
 .unfold Dr at c
  rw [X] at c
  simp only [Nat.zero_mul,Nat.zero_add,Nat.sub_zero] at c
  obtain ⟨_,f⟩:=c
  by_cases ht:j=0
  .subst ht
   obtain ⟨s1,E⟩:=(s.drew (w.drawn+1)).newFrozen (.view ⟨g,0,none⟩ 5)
   have U:=(Array.getElem?_eq_some_iff.1 h3).1
   refine go _ _ 0 _ (w.drew.alloc (.view ⟨g,0,none⟩ 5)) f ?_ (Lib.run_unsafeSliceData_zero _ _ _ 5 Go.Proofs.Tryz.underlying256 _ _ (5,D.size) (by
    have:w.drew.heap[g]? = some (.cells D 5 (0,0)):=g3
    simp [World.shape?,this])) E s1
   show (w.heap.push _)[b]? = _
   rw [Array.getElem?_push,if_neg (by omega)]
  .exact go _ _ j σ w.drew f rfl (Lib.run_unsafeSliceData_row _ _ _ _ _ _ ht) (Le.refl _ _ _) (s.drew _)
theorem Aah {p:AV} {l:List Int} {r:ByteArray} (h:P6 l=some r):Bp Go.Proofs.Tryz.prog 147 [.loc 0 0] [.cells 187 [p,.arr 1 l.length 0 l.length],.rows 5 1 (List.map (O .u8) l)] (Dk r) [.cells 187 [p,.arr 1 l.length 0 l.length],.dead]:=by
 unfold P6 at h
 split at h
 .rename_i X
  cases h
  by_cases u:l = []
  .subst u; exact Ag7
  refine ⟨⟨_,Tryz.func147,by kernel_rfl,by kernel_rfl⟩,fun σ F W w ι vs s J=>?_⟩
  obtain ⟨v,rfl,N⟩:=Mh J
  obtain ⟨b,hb,N⟩:=N.loc_inv
  subst N
  have y:=s.obj 0
  unfold Bn at y
  rw [Rm] at y
  obtain ⟨b',C,e1,_,_,h3,M,h5⟩:=y
  rw [hb] at e1; cases e1
  have M:C.size=2:=M
  have hC:C = #[C[0],C[1]]:=by
   apply Array.ext
   .simp [M]
   .intro i hi S
    match i with
    | 0=>rfl
    | 1=>rfl
    | i+2=>simp at S; omega
  have V:=h5 1 (.arr 1 l.length 0 l.length) C[1] rfl (by simp [M])
  have I:hp [A1.cells 187 [p,.arr 1 l.length 0 l.length],.rows 5 1 (List.map (O .u8) l)] 1 = .rows 5 1 (List.map (O .u8) l):=rfl
  have k:=V.arr_inv I (by simp)
  have hor:=s.obj 1
  unfold Bn at hor
  rw [I] at hor
  obtain ⟨_,G,hor⟩:=hor
  rw [List.length_map] at G
  rcases hor with ⟨_,E⟩ | ⟨g,q,D,hg,g1,g2,g3,g4,g5,g6⟩
  .exact (u (by simpa using E)).elim
  .rw [List.length_map] at g5
   unfold Dr at k
   rw [hg] at k
   simp only [Nat.zero_mul,Nat.zero_add,Nat.sub_zero] at k
   obtain ⟨ht,B⟩:=k
   have c:(Hf l).length=l.length:=by simp [Hf]
   have f:∀(j:Nat) (x:UInt8),(Hf l)[j]? = some x->D[j]? = some (Value.int .u8 x.toNat):=by
    intro j x hx
    have hj:=Ag6 X hx
    obtain ⟨gg,q1,q2,q3⟩:=g6
    have A:(List.map (O .u8) l)[j]? = some (O .u8 x.toNat):=by rw [List.getElem?_map,hj]; rfl
    have R:j<(List.map (O .u8) l).length:=(List.getElem?_eq_some_iff.1 A).1
    have q4:=q3 j 0 R (by omega)
    have q5:=(q2 j _ 0 _ A rfl).1
    have:gg j 0=Value.int .u8 x.toNat:=by
     generalize gg j 0=z at q5
     cases q5; rfl
    rw [this] at q4
    simpa using q4
   have Z:w.heap[b]? = some (.cells #[C[0],.slice (some ⟨g,0,none⟩) (Hf l).length q] 187 (0,0)):=by
    rw [h3]; congr 1; rw [c]
    have:C[1] = .slice (some ⟨g,0,none⟩) l.length q:=B
    rw [<-this,<-hC]
   have a1:l.length<=D.size:=by rw [g4]; omega
   have call:=Tryz.builder_str b g q C[0] D (Hf l) w (by intro e; apply u; rw [<-List.length_eq_zero_iff,<-c,e]; rfl) Z g3 (by rw [c]; exact g5) (by rw [c]; exact a1) (by rw [c]; omega) f
   refine call.mono ?_
   rintro e w' ⟨rfl,rfl⟩
   have le:Le σ ι (hp [A1.cells 187 [p,.arr 1 l.length 0 l.length],.rows 5 1 (List.map (O .u8) l)]) σ ι (Au (hp [A1.cells 187 [p,.arr 1 l.length 0 l.length],.rows 5 1 (List.map (O .u8) l)]) 1 .dead):=by
    have:=Le.upd (ι:=ι) (H:=hp [A1.cells 187 [p,.arr 1 l.length 0 l.length],.rows 5 1 (List.map (O .u8) l)]) (An.le_refl σ) 1 (ι 1) .dead ⟨fun _ e=>e,(fun _ e=>by cases e),(fun _ E1 a7 a6 e=>by cases e)⟩
    rwa [Ev] at this
   have eH:Au (hp [A1.cells 187 [p,.arr 1 l.length 0 l.length],.rows 5 1 (List.map (O .u8) l)]) 1 .dead=hp [A1.cells 187 [p,.arr 1 l.length 0 l.length],.dead]:=by
    funext i
    match i with
    | 0=>rfl
    | 1=>rfl
    | i+2=>rfl
   have s2:St σ ι (Au (hp [A1.cells 187 [p,.arr 1 l.length 0 l.length],.rows 5 1 (List.map (O .u8) l)]) 1 .dead) F W (w.drew.freeze ⟨g,0,none⟩ (Hf l).length):=by
    have U:∀b,b≠g->(w.drew.freeze ⟨g,0,none⟩ (Hf l).length).heap[b]? = w.heap[b]?:=by
     intro b hb
     unfold World.freeze
     split
     .rfl
     .simp only [Array.getElem?_modify]
      rw [if_neg (Ne.symm hb)]; rfl
    refine s.touch 1 g (fun _ _=>rfl) (fun x e=>B7 _ _ e) le U (fun _ _=>rfl) (fun o y=>by rw [g1] at y; cases y) ?_ g2 ?_ ?_ ?_ ?_ ?_
    .intro x hx L Y
     exact hx (s.inj x 1 g L rfl Y (by rw [hg]; rfl))
    .intro b0 L
     rw [Bm] at L; cases L
    .unfold Bn
     rw [Bm]; trivial
    .unfold World.freeze; split <;> rfl
    .unfold World.freeze; split <;> rfl
    .unfold World.freeze; split <;> rfl
   rw [eH] at le s2
   exact ⟨_,σ,ι,rfl,le,s2,.of_val _⟩
 .cases h
end Go.Ab
namespace Go.Ab
open Go Go.Proofs
set_option linter.unusedVariables false
class OK {α:Type} (o:Option α) (G:outParam (α->Prop)):Prop where
 ok:∀{r:α},o=some r->G r
theorem okz {α:Type} {G:α->Prop}:OK (none:Option α) G:=⟨fun h=>by cases h⟩
section
variable {P:Program} {C:Cfg} {Qn:Nat->A4->Hp->Prop} {Qe:Nat->Nat->A4->Hp->Prop} {Qr:Nat->A4->Hp->Prop} {n:Nat} {e:A4} {H:Hp} {β:Type} {r:β}
variable {T:Bt} {an:Nat->Ann} {nl:Nat->List (Nat×Nat)} {ops:Array Oper} {o:Oper} {os:List Oper} {acc:Es} {K:Nat->A4->Hp->Es->Prop}
theorem El {p:Nat×Bool} {s:Nat} {b:Bool} {m m':Option β} (h:(bif b then m else m')=some r) (h1:b=true->m=some r->C4 (Cw P T an nl ops (o::os) n (Au e s (.val (.bool true))) H acc K))
  (h2:b=false->m'=some r->C4 (Cw P T an nl ops (o::os) n (Au e s (.val (.bool false))) H acc K)) (hg:o.guard=some p:=by exact rfl) (hs:(ops[p.1]?).bind (·.dst)=some s:=by exact rfl) (hb:e s = .val (.bool b):=by exact rfl):C4 (Cw P T an nl ops (o::os) n e H acc K):=Agd h h1 h2 hb
theorem nw {c:Code} (k:wc P C c Qn Qe Qr n e H):C4 (wc P C c Qn Qe Qr n e H):=.mk k
theorem Bz {S E:Type} {o:S⊕E} {J:E->Option β} {x:E} (h:some (Sum.inr x)=some o) (hx:∀x,Sum.inr x=o->J x=some r:=by assumption):J x=some r:=hx x (Option.some.inj h)
theorem lpj {S:Type} {o:S} {J:S->Option β} {x:S} (h:some x=some o) (hx:∀y,y=o->J y=some r:=by assumption):J x=some r:=hx x (Option.some.inj h)
theorem lpn {S E:Type} {o:S⊕E} {s':S} {K:Nat->A4->Hp->Prop} {iv:S->List (Nat×AV)} {hv:S->List (Nat×A1)} {inv:S->Prop} {n0:Nat} {H0:Hp} (h:some (Sum.inl s')=some o) (hn:∀s' n' e' H',Sum.inl s'=o->D0 e' (iv s')->D1 H' (Bj H0 (hv s')) n0 n0->inv s'->K n' e' H':=by assumption)
  (hs:D0 e (iv s'):=by (repeat refine ⟨rfl,?_⟩); exact trivial) (hh:D1 H (Bj H0 (hv s')) n0 n0:=by (repeat refine ⟨⟨rfl,rfl⟩,?_⟩); exact trivial) (hi:inv s':=by first | trivial | exact rfl | ((repeat refine Ef ?_ _ _); first | exact rfl | assumption)):K n e H:=hn s' n e H (Option.some.inj h) hs hh hi
theorem jnn {S E:Type} {o x:E} {s:S} {J:S->Prop} {K:Nat->A4->Hp->Prop} {iv:S->List (Nat×AV)} {hv:S->List (Nat×A1)} {n0:Nat} {H0:Hp} (h:some x=some o) (hn:∀s n' e' H',J s->D0 e' (iv s)->D1 H' (Bj H0 (hv s)) n0 n0->K n' e' H':=by assumption) (hJ:J s:=by exact Option.some.inj h)
  (hs:D0 e (iv s):=by (repeat refine ⟨rfl,?_⟩); exact trivial) (hh:D1 H (Bj H0 (hv s)) n0 n0:=by (repeat refine ⟨⟨rfl,rfl⟩,?_⟩); exact trivial):K n e H:=hn s n e H hJ hs hh
theorem Bc {α:Type} {o:Option α} {m:α->Option β} {f:FuncId} {args:List AV} {G:α->Prop} {ra:α->AV} {K:Eff->Nat->Prop} (h:o.bind m=some r) [i:OK o G] (k:∀v,m v=some r->K ⟨ra v,[],[]⟩ n) (hG:∀v,G v->Aq P f args (ra v):=by exact fun _ h=>h) (hf:args.all AV.free=true:=by exact rfl):Er P n H f args K :=
 Cn h fun v hv h=>Er.mk _ (hG v (i.ok hv)) hf (k v h)
theorem Aai {α:Type} {o:Option α} {m:α->Option β} {f:FuncId} {args args':List AV} {G:α->Prop} {ra:α->AV} {K:Eff->Nat->Prop} (h:o.bind m=some r) [i:OK o G] (k:∀v,m v=some r->K ⟨ra v,[],[]⟩ n) (hG:∀v,G v->Aq P f args' (ra v):=by exact fun _ h=>h) (hs:I4 args args':=by (repeat first | refine ⟨Sub.refl _,?_⟩ | refine ⟨Sub.nil _,?_⟩); exact trivial) (hf:args.all AV.free=true:=by exact rfl):Er P n H f args K :=
 Cn h fun v hv h=>Er.mk _ (Aq.sub (hG v (i.ok hv)) hs (Sub.refl _)) hf (k v h)
theorem A5 {α:Type} {o:Option α} {m:α->Option β} {f:FuncId} {args largs:List AV} {G:α->Prop} {ra:α->AV} {hs:List A1} {hs':α->List A1} {K:Eff->Nat->Prop} (l:List Nat) (h:o.bind m=some r) [i:OK o G] (k:∀v,m v=some r->K ⟨ren (Cm n l) (ra v),wrs (Cm n l) 0 hs++Bf (Cm n l) l.length ((hs' v).length-l.length),wrs (Cm n l) 0 (hs' v)⟩ (n+((hs' v).length-l.length)))
  (hG:∀v,G v->Bp P f largs hs (ra v) (hs' v):=by exact fun _ h=>h) (ha:largs.map (ren (Cm n l))=args:=by exact rfl) (ok:∀v,Lf n l largs hs (ra v) (hs' v)=true:=by exact fun _=>rfl) (hh:J4 H (wrs (Cm n l) 0 hs):=by (repeat refine ⟨rfl,?_⟩); exact trivial):Er P n H f args K :=
 Cn h fun v hv h=>Er.act l largs hs (ra v) (hs' v) (hG v (i.ok hv)) ha (ok v) hh (k v h)
theorem Bq {α:Type} {l:List α} {f:α->AV} {ys:List AV} {i:Int} {m:α->Option β} {K:Nat->AV->Prop} (h:(Ag l i).bind m=some r) (k:∀(n:Nat) (x:α),i=n->l[n]? = some x->m x=some r->K n (f x)) (he:ys=l.map f:=by first | exact rfl | exact Hi _ | exact Gy _ | exact Hj _):Mv ys i K:=Age he h k
theorem H6 {α:Type} {l:List α} {f:α->AV} {ys:List AV} {i:Int} {m:α->Option β} {K:Nat->Prop} {len kk:Nat} (h:(Ag l i).bind m=some r) (k:∀(n:Nat) (x:α),i=n->l[n]? = some x->m x=some r->K n) (he:ys=l.map f:=by first | exact rfl | exact Hi _ | exact Gy _ | exact Hj _) (hl:len=l.length:=by first | exact rfl | assumption | exact F2 (by assumption) | ((repeat refine Ef ?_ _ _); first | exact rfl | assumption)) (hk:kk=l.length:=by first | exact rfl | assumption | exact F2 (by assumption) | ((repeat refine Ef ?_ _ _); first | exact rfl | assumption)):J5 len kk ys i K:=Agf he hl hk h k
theorem Fr {α:Type} {l:List α} {f:α->AV} {ys:List AV} {i:Int} {m:α->Option β} {K:Nat->Prop} {off len kk:Nat} (h:(De l off len i).bind m=some r) (k:∀(n:Nat) (x:α),i=n->l[off+n]? = some x->m x=some r->K n) (he:ys=l.map f:=by first | exact rfl | exact Hi _ | exact Gy _ | exact Hj _) (hk:kk=l.length:=by first | exact rfl | assumption | exact F2 (by assumption) | ((repeat refine Ef ?_ _ _); first | exact rfl | assumption)):J5 len kk ys i K:=Agg he hk h k
theorem Ji {α:Type} {l:List α} {f:α->AV} {ys:List AV} {K:Int->Prop} (k:K (l.length:Int)) (he:ys=l.map f:=by first | exact rfl | exact Hi _ | exact Gy _ | exact Hj _):G8 ys K:=Agp he k
theorem Jj {α:Type} {l:List α} {f:α->AV} {ys:List AV} {kk:Nat} {K:Prop} (k:K) (he:ys=l.map f:=by first | exact rfl | exact Hi _ | exact Gy _ | exact Hj _) (hk:kk=l.length:=by first | exact rfl | assumption | exact F2 (by assumption) | ((repeat refine Ef ?_ _ _); first | exact rfl | assumption)):Ds kk ys K:=Agq he hk k
theorem Jk {K:Prop} (k:K):Ds 0 [] K:=.mk rfl k
theorem Jl {α:Type} {l:List α} {f:α->AV} {ys:List AV} {n i kk:Nat} {x:α} {K:AV->Prop} (k:K (f x)) (he:ys=l.map f:=by first | exact rfl | exact Hi _ | exact Gy _ | exact Hj _) (hk:kk=l.length:=by first | exact rfl | assumption | exact F2 (by assumption) | ((repeat refine Ef ?_ _ _); first | exact rfl | assumption)) (hi:i=n/\l[n]? = some x:=by first | exact ⟨Nat.zero_add _,by assumption⟩ | exact ⟨rfl,by assumption⟩):Gn kk i ys K:=Agi he hk hi.1 hi.2 k
theorem Aaj {α:Type} {l:List α} {f:α->AV} {ys:List AV} {n i:Nat} {j:Int} {x:α} {p:AV} {K:List AV->Prop} (k:K ((Ch l j x).map f)) (he:ys=l.map f:=by first | exact rfl | exact Hi _ | exact Gy _ | exact Hj _) (hp:p=f x:=by exact rfl) (hi:i=n/\j=(n:Int):=by first | exact ⟨Nat.zero_add _,by assumption⟩ | exact ⟨rfl,by assumption⟩ | exact ⟨rfl,P5 _ (by assumption)⟩):Mw ys i p K:=Hx he hp hi.1 hi.2 k
theorem Oo {α:Type} {l ys:List α} {f:α->AV} {xs zs:List AV} {b kk len:Nat} {m:List α->Option β} {K:List AV->Nat->Prop} {KP:List AV->Nat->Nat->Prop} (h:(B1 b l ys).bind m=some r) (k:∀o:List α,m o=some r->K (o.map f) o.length) (he:xs=l.map f/\zs=ys.map f:=by first | exact ⟨rfl,rfl⟩ | (refine ⟨?_,?_⟩; rotate_left; exact rfl; exact rfl)) (hk:kk=l.length:=by first | exact rfl | assumption | exact F2 (by assumption) | ((repeat refine Ef ?_ _ _); first | exact rfl | assumption)) (hl:len=l.length:=by first | exact rfl | assumption | exact F2 (by assumption) | ((repeat refine Ef ?_ _ _); first | exact rfl | assumption)):G7 xs zs kk len b K KP:=Uc he.1 he.2 hk hl h k
theorem Aak {l:List Int} {s:ByteArray} {xs:List AV} {b kk len:Nat} {m:List Int->Option β} {K:List AV->Nat->Prop} {KP:List AV->Nat->Nat->Prop} (h:(B1 b l (M5 s)).bind m=some r) (k:∀o:List Int,m o=some r->K (o.map fun n=>.val (.int .u8 n)) o.length) (he:xs=l.map fun n=>.val (.int .u8 n):=by exact rfl) (hk:kk=l.length:=by first | exact rfl | assumption | exact F2 (by assumption) | ((repeat refine Ef ?_ _ _); first | exact rfl | assumption)) (hl:len=l.length:=by first | exact rfl | assumption | exact F2 (by assumption) | ((repeat refine Ef ?_ _ _); first | exact rfl | assumption)):G7 xs (E5 s) kk len b K KP:=Agk he hk hl h k
class GL {α:Type} (g:List α->List AV) (f:outParam (α->AV)):Prop where
 eq:∀l,g l=l.map f
instance:GL Bb Et:=⟨Hi⟩
instance:GL F7 D6:=⟨Gy⟩
instance:GL Mf Rj:=⟨Hj⟩
theorem Aal {α:Type} {g:List α->List AV} {f:α->AV} [i:GL g f] {l ys:List α} {zs:List AV} {b kk len:Nat} {m:List α->Option β} {K:List AV->Nat->Prop} {KP:List AV->Nat->Nat->Prop} (h:(B1 b l ys).bind m=some r) (k:∀o:List α,m o=some r->K (g o) o.length) (hz:zs=ys.map f:=by first | exact rfl | exact GL.eq _) (hk:kk=l.length:=by first | exact rfl | assumption | exact F2 (by assumption) | ((repeat refine Ef ?_ _ _); first | exact rfl | assumption)) (hl:len=l.length:=by first | exact rfl | assumption | exact F2 (by assumption) | ((repeat refine Ef ?_ _ _); first | exact rfl | assumption)):G7 (g l) zs kk len b K KP:=Agl i.eq (i.eq l) hz hk hl h k
theorem Aam {α:Type} {ys:List α} {f:α->AV} {zs:List AV} {b:Nat} {m:List α->Option β} {K:List AV->Nat->Prop} (h:(B1 b [] ys).bind m=some r) (k:∀o:List α,m o=some r->K (o.map f) o.length) (hz:zs=ys.map f:=by exact rfl):J7 zs b K:=Zo hz h k
theorem Aan {α:Type} {g:List α->List AV} {f:α->AV} [i:GL g f] {ys:List α} {zs:List AV} {b:Nat} {m:List α->Option β} {K:List AV->Nat->Prop} (h:(B1 b [] ys).bind m=some r) (k:∀o:List α,m o=some r->K (g o) o.length) (hz:zs=g ys:=by exact rfl):J7 zs b K:=Agm i.eq (hz.trans (i.eq ys)) h k
theorem Em {α:Type} {z:α} {f:α->AV} {za:AV} {len cap:Int} {b:Nat} {m:List α->Option β} {K:Nat->List AV->Prop} (h:(Dp b len cap z).bind m=some r) (k:∀o:List α,m o=some r->K o.length (o.map f)) (hz:za=f z:=by first | exact (rfl:_=O _ _) | exact (rfl:_=Ao _) | exact rfl):Lg len cap b za K:=Agn hz h k
theorem Kx {α:Type} {l:List α} {f:α->AV} {ys:List AV} {lo hi:Int} {m:List α->Option β} {K:List AV->Prop} (h:(E2 l lo hi).bind m=some r) (k:∀l':List α,m l'=some r->K (l'.map f)) (he:ys=l.map f:=by first | exact rfl | exact Hi _ | exact Gy _ | exact Hj _):J6 ys lo hi K:=Zn he h k
theorem Aao {α:Type} {l:List α} {f:α->AV} {ys:List AV} {lo:Int} {m:List α->Option β} {K:List AV->Prop} (h:(E2 l lo l.length).bind m=some r) (k:∀l':List α,m l'=some r->K (l'.map f)) (he:ys=l.map f:=by first | exact rfl | exact Hi _ | exact Gy _ | exact Hj _):J6 ys lo ys.length K:=Agj he h k
theorem Ea {S E:Type} {step:S->Option (S⊕E)} {s0:S} {J:E->Option β} {b:Code} (h:(Aj step s0).bind J=some r) (iv:S->List (Nat×AV)) (hv:S->List (Nat×A1)) (inv:S->Prop)
  (body:∀(s:S) (u:Nat->Value) (K:Nat->A4->Hp->Prop) (o:S⊕E),step s=some o->(∀x,.inr x=o->J x=some r)->(∀s' n' e' H',.inl s'=o->D0 e' (iv s')->D1 H' (Bj H (hv s')) n n->inv s'->K n' e' H')->inv s ->
   wc P C b K Qe Qr n (F0 (Da b) e u (iv s)) (Bj H (hv s)))
  (hb:∀s,Gj n (iv s) (hv s)=true:=by exact fun _=>rfl) (hs:D0 e (iv s0):=by (repeat refine ⟨rfl,?_⟩); exact trivial) (hh:D1 H (Bj H (hv s0)) n n:=by (repeat refine ⟨⟨rfl,rfl⟩,?_⟩); exact trivial) (h0:inv s0:=by first | exact rfl | assumption | exact F2 (by assumption) | ((repeat refine Ef ?_ _ _); first | exact rfl | assumption)):wc P C (.loop b) Qn Qe Qr n e H:=Zw h iv hv inv hb hs hh h0 body
theorem Ax {S E:Type} {step:S->Option (S⊕E)} {s0:S} {J:E->Option β} {b:Code} (h:(Aj step s0).bind J=some r) (iv:S->List (Nat×AV)) (hv:S->List (Nat×A1))
  (body:∀(s:S) (u:Nat->Value) (K:Nat->A4->Hp->Prop) (o:S⊕E),step s=some o->(∀x,.inr x=o->J x=some r)->(∀s' n' e' H',.inl s'=o->D0 e' (iv s')->D1 H' (Bj H (hv s')) n n->True->K n' e' H') ->
   wc P C b K Qe Qr n (F0 (Da b) e u (iv s)) (Bj H (hv s)))
  (hb:∀s,Gj n (iv s) (hv s)=true:=by exact fun _=>rfl) (hs:D0 e (iv s0):=by (repeat refine ⟨rfl,?_⟩); exact trivial) (hh:D1 H (Bj H (hv s0)) n n:=by (repeat refine ⟨⟨rfl,rfl⟩,?_⟩); exact trivial):wc P C (.loop b) Qn Qe Qr n e H:=Zw h iv hv (fun _=>True) hb hs hh trivial fun s u K o h1 h2 h3 _=>body s u K o h1 h2 h3
theorem Wk {S S':Type} {c:Code} {o:Option S'} {m:S'->Option β} (inj:S->S') (h:o.bind m=some r) (iv:S->List (Nat×AV)) (hv:S->List (Nat×A1))
  (k1:∀x,o=some x->∀(K:Nat->A4->Hp->Prop),(∀s n' e' H',inj s=x->D0 e' (iv s)->D1 H' (Bj H (hv s)) n n->K n' e' H')->(∀y,y=x->m y=some r)->wc P C c K Qe Qr n e H)
  (k2:∀(s:S) (u:Nat->Value),m (inj s)=some r->Qn n (F0 (Da c) e u (iv s)) (Bj H (hv s))) (hb:∀s,Gj n (iv s) (hv s)=true:=by exact fun _=>rfl):wc P C c Qn Qe Qr n e H :=
 P7 h fun x hx hj=>Kf (fun s=>inj s=x) iv hv hb (fun K hK=>k1 x hx K hK hj) fun s u hs=>k2 s u (hj _ hs)
theorem Br {S:Type} {c:Code} {o:Option S} {m:S->Option β} (h:o.bind m=some r) (iv:S->List (Nat×AV)) (hv:S->List (Nat×A1))
  (k1:∀x,o=some x->∀(K:Nat->A4->Hp->Prop),(∀s n' e' H',s=x->D0 e' (iv s)->D1 H' (Bj H (hv s)) n n->K n' e' H')->(∀y,y=x->m y=some r)->wc P C c K Qe Qr n e H)
  (k2:∀(s:S) (u:Nat->Value),m s=some r->Qn n (F0 (Da c) e u (iv s)) (Bj H (hv s))) (hb:∀s,Gj n (iv s) (hv s)=true:=by exact fun _=>rfl):wc P C c Qn Qe Qr n e H:=Wk (fun s=>s) h iv hv k1 k2 hb
abbrev C0:Cfg:={T:=B5,an:=fun _=>.ask}
theorem pw {f:FuncId} {fn:Func} {c:Code} {args:List AV} {r:AV} (C:Cfg) (hf:Go.Proofs.Tryz.prog.funcs[f]? = some fn) (hv:wc Go.Proofs.Tryz.prog C c (fun _ e H=>Ka C.T fn.results.toList (· = r) e H) (fun _ _ _ _=>False) (fun _ e H=>Ka C.T fn.results.toList (· = r) e H) 0 (Lm args) H0)
   (hT:C.T=B5:=by exact rfl) (hb:fn.body=some c:=by exact rfl) (hname:(fn.name == "runtime.NumGoroutine")=false:=by kernel_rfl) (hok:Ln fn c args.length=true:=by kernel_rfl) (hfree:r.free=true:=by exact rfl):Aq Go.Proofs.Tryz.prog f args r:=Agr (by rw [hT]; exact Zz) M0 hf hb hname hok hfree hv
theorem aw {f:FuncId} {fn:Func} {c:Code} {args:List AV} {r:AV} {hs hs':List A1} (C:Cfg) (fz:Bool) (hf:Go.Proofs.Tryz.prog.funcs[f]? = some fn) (hv:wc Go.Proofs.Tryz.prog C c (fun _ e H=>Kd C.T fz fn.results.toList r hs' e H) (fun _ _ _ _=>False) (fun _ e H=>Kd C.T fz fn.results.toList r hs' e H) hs.length (Lm args) (hp hs))
   (hT:C.T=B5:=by exact rfl) (hb:fn.body=some c:=by exact rfl) (hname:(fn.name == "runtime.NumGoroutine")=false:=by kernel_rfl) (hok:Ln fn c args.length=true:=by kernel_rfl) (hok':T2 hs r hs'=true:=by exact rfl):Bp Go.Proofs.Tryz.prog f args hs r hs':=Ags fz (by rw [hT]; exact Zz) M0 hf hb hname hok hok' hv
end
theorem opk {P:Program} {T:Bt} {an:Nat->Ann} {nl:Nat->List (Nat×Nat)} {o:Oper} {n:Nat} {e:A4} {H:Hp} {acc:Es} {K:Nat->A4->Hp->Es->Prop} (k:opK P T an nl o n e H acc K):opK P T an nl o n e H acc K:=k
theorem cnd {t:Bool} {A B:Prop} (k:bif t then A else B):bif t then A else B:=k
structure Hd (Q:Prop):Prop where
 get:Q
theorem Z {P Q:Prop} (k:Q) (h:Hd Q->P:=by
  intro q
  repeat first
    | ((with_reducible show C4 (Cw _ _ _ _ _ (_::_) _ _ _ _ _)); (first | refine nx ?_ | refine I6 ?_ | refine I5 ?_))
    | ((with_reducible refine opk ?_); conv=>whnf
       first
      | ((with_reducible show C4 _); refine nw ?_)
      | ((with_reducible show Ee _ _ _); refine Ee.mk _ rfl ?_)
      | ((with_reducible show G8 _ _); refine Ji ?_)
      | ((with_reducible show Gn _ _ _ _); refine Jl ?_)
      | ((with_reducible show Ds _ _ _); (first | refine Jj ?_ | refine Jk ?_)))
    | ((with_reducible show C4 (Cw _ _ _ _ _ [] _ _ _ _ _)); refine He ?_)
    | ((with_reducible show C4 (wc _ _ _ _ _ _ _ _ _)); refine nw ?_)
    | with_reducible refine Ay ?_
    | with_reducible refine Bw ?_
    | with_reducible refine Uh ?_
    | with_reducible refine Hy ?_
    | with_reducible refine Ii ?_
    | with_reducible refine Ej ?_
    | with_reducible refine Zt ?_
    | with_reducible refine Uj ?_
    | with_reducible refine Ui ?_
    | ((with_reducible refine cnd ?_); first | refine Ei rfl ?_ | refine Tx rfl ?_)
    | ((with_reducible show Hc _ _ _); refine Hc.mk (by kernel_rfl) ?_)
    | ((with_reducible show wc _ _ (.cond _ _ _) _ _ _ _ _ _); first | refine Qc ?_ | refine M9 ?_)
    | refine nw ?_
    | refine nx ?_
    | refine He ?_
    | refine I6 ?_
    | refine I5 ?_
    | (conv=>whnf
       first
      | ((with_reducible show C4 _); refine nw ?_)
      | ((with_reducible show Ee _ _ _); refine Ee.mk _ rfl ?_)
      | ((with_reducible show G8 _ _); refine Ji ?_)
      | ((with_reducible show Gn _ _ _ _); refine Jl ?_)
      | ((with_reducible show Ds _ _ _); (first | refine Jj ?_ | refine Jk ?_)))
  exact q.get):P:=h ⟨k⟩
theorem ZS {P Q:Prop} (k:Q) (h:Hd Q->P:=by
  intro q
  repeat first
    | ((with_reducible show C4 (Cw _ _ _ _ _ (_::_) _ _ _ _ _)); (first | refine nx ?_ | refine I6 ?_ | refine I5 ?_))
    | ((with_reducible refine opk ?_); conv=>whnf
       first
      | ((with_reducible show C4 _); refine nw ?_)
      | ((with_reducible show Ee _ _ _); refine Ee.mk _ rfl ?_)
      | ((with_reducible show G8 _ _); refine Ji ?_)
      | ((with_reducible show Gn _ _ _ _); refine Jl ?_)
      | ((with_reducible show Ds _ _ _); (first | refine Jj ?_ | refine Jk ?_)))
    | ((with_reducible show C4 (Cw _ _ _ _ _ [] _ _ _ _ _)); refine He ?_)
    | ((with_reducible show C4 (wc _ _ _ _ _ _ _ _ _)); refine nw ?_)
    | with_reducible refine Ay ?_
    | with_reducible refine Uh ?_
    | with_reducible refine Hy ?_
    | with_reducible refine Ii ?_
    | with_reducible refine Ej ?_
    | with_reducible refine Uj ?_
    | with_reducible refine Ui ?_
    | ((with_reducible refine cnd ?_); first | refine Ei rfl ?_ | refine Tx rfl ?_)
    | ((with_reducible show Hc _ _ _); refine Hc.mk (by kernel_rfl) ?_)
    | ((with_reducible show wc _ _ (.cond _ _ _) _ _ _ _ _ _); first | refine Qc ?_ | refine M9 ?_)
    | refine nw ?_
    | refine nx ?_
    | refine He ?_
    | refine I6 ?_
    | refine I5 ?_
    | (conv=>whnf
       first
      | ((with_reducible show C4 _); refine nw ?_)
      | ((with_reducible show Ee _ _ _); refine Ee.mk _ rfl ?_)
      | ((with_reducible show G8 _ _); refine Ji ?_)
      | ((with_reducible show Gn _ _ _ _); refine Jl ?_)
      | ((with_reducible show Ds _ _ _); (first | refine Jj ?_ | refine Jk ?_)))
  exact q.get):P:=h ⟨k⟩
theorem ZO {P Q:Prop} (k:Q) (h:Hd Q->P:=by
  intro q
  repeat first
    | ((with_reducible show C4 (Cw _ _ _ _ _ (_::_) _ _ _ _ _)); (first | refine nx ?_ | refine I6 ?_ | refine I5 ?_))
    | ((with_reducible refine opk ?_); conv=>whnf
       first
      | ((with_reducible show Ee _ _ _); refine Ee.mk _ rfl ?_)
      | ((with_reducible show G8 _ _); refine Ji ?_)
      | ((with_reducible show Gn _ _ _ _); refine Jl ?_)
      | ((with_reducible show Ds _ _ _); (first | refine Jj ?_ | refine Jk ?_)))
    | ((with_reducible show C4 (Cw _ _ _ _ _ [] _ _ _ _ _)); refine He ?_)
    | ((with_reducible show Hc _ _ _); refine Hc.mk (by kernel_rfl) ?_)
    | refine nx ?_
    | refine He ?_
    | refine I6 ?_
    | refine I5 ?_
    | (conv=>whnf
       first
      | ((with_reducible show Ee _ _ _); refine Ee.mk _ rfl ?_)
      | ((with_reducible show G8 _ _); refine Ji ?_)
      | ((with_reducible show Gn _ _ _ _); refine Jl ?_)
      | ((with_reducible show Ds _ _ _); (first | refine Jj ?_ | refine Jk ?_)))
  exact q.get):P:=h ⟨k⟩
theorem Y {P:Prop} (h:P:=by
  repeat' first
    | ((with_reducible show C4 (Cw _ _ _ _ _ (_::_) _ _ _ _ _)); first | refine nx ?_ | refine I6 ?_ | refine I5 ?_ | refine El h (fun _ h=>?_) (fun _ h=>?_))
    | ((with_reducible refine opk ?_); conv=>whnf
       first
      | ((with_reducible show C4 _); refine nw ?_)
      | ((with_reducible show Ee _ _ _); refine Ee.mk _ rfl ?_)
      | ((with_reducible show G8 _ _); refine Ji ?_)
      | ((with_reducible show Er _ _ _ _ _ _); (first | refine Bc h (fun _ h=>?_) | refine Aai h (fun _ h=>?_)))
      | ((with_reducible show Mv _ _ _); refine Bq h (fun _ _ _ _ h=>?_))
      | ((with_reducible show J5 _ _ _ _ _); (first | refine H6 h (fun _ _ _ _ h=>?_) | refine Fr h (fun _ _ _ _ h=>?_)))
      | ((with_reducible show Gn _ _ _ _); refine Jl ?_)
      | ((with_reducible show Mw _ _ _ _); refine Aaj ?_)
      | ((with_reducible show G7 _ _ _ _ _ _ _); (first | refine Aak h (fun _ h=>?_) | refine Oo h (fun _ h=>?_) | refine Aal h (fun _ h=>?_)))
      | ((with_reducible show J7 _ _ _); (first | refine Aam h (fun _ h=>?_) | refine Aan h (fun _ h=>?_)))
      | ((with_reducible show Lg _ _ _ _ _); refine Em h (fun _ h=>?_))
      | ((with_reducible show J6 _ _ _ _); (first | refine Aao h (fun _ h=>?_) | refine Kx h (fun _ h=>?_)))
      | ((with_reducible show Ds _ _ _); (first | refine Jj ?_ | refine Jk ?_))
      | ((with_reducible show Pm _ _ _); refine M8 h (fun _ h=>?_))
      | ((with_reducible show Pg _ _ _ _); refine M7 h (fun _ h=>?_))
      | ((with_reducible show Ph _ _ _); refine P9 h (fun _ h=>?_))
      | ((with_reducible show Pj _ _ _ _); refine Zr h (fun _ h=>?_))
      | ((with_reducible show Pi _ _ _ _); refine Qa h (fun _ h=>?_))
      | ((with_reducible show Pk _ _ _ _); refine Uf h (fun _ _ _ _ h=>?_))
      | ((with_reducible show Pn _ _); refine D5 h (fun h=>?_))
      | ((with_reducible show Po _ _ _ _ _); refine Zl h (fun _ h=>?_))
      | ((with_reducible show Pp _ _ _ _); refine Zm h (fun _ h=>?_)))
    | ((with_reducible show C4 (Cw _ _ _ _ _ [] _ _ _ _ _)); refine He ?_)
    | ((with_reducible show C4 (wc _ _ _ _ _ _ _ _ _)); refine nw ?_)
    | with_reducible refine Ay ?_
    | with_reducible refine Bw ?_
    | with_reducible refine Uh ?_
    | with_reducible refine Hy ?_
    | with_reducible refine Ii ?_
    | with_reducible refine Ej ?_
    | with_reducible refine Zt ?_
    | with_reducible refine Uj ?_
    | with_reducible refine Ui ?_
    | ((with_reducible refine cnd ?_); first | refine Ei rfl ?_ | refine Tx rfl ?_)
    | ((with_reducible show wc _ _ (.cond _ _ _) _ _ _ _ _ _); first | refine Al h (fun _ h=>?_) (fun _ h=>?_) | refine Qc ?_ | refine M9 ?_)
    | ((with_reducible show Hc _ _ _); refine Hc.mk (by kernel_rfl) ?_)
    | refine nx ?_
    | refine He ?_
    | refine I6 ?_
    | refine I5 ?_
    | refine El h (fun _ h=>?_) (fun _ h=>?_)
    | exact lpn h
    | exact jnn h
    | replace h:=Bz h
    | replace h:=lpj h
    | refine nw ?_
    | (conv=>whnf
       first
      | ((with_reducible show C4 _); refine nw ?_)
      | ((with_reducible show Ee _ _ _); refine Ee.mk _ rfl ?_)
      | ((with_reducible show G8 _ _); refine Ji ?_)
      | ((with_reducible show Er _ _ _ _ _ _); (first | refine Bc h (fun _ h=>?_) | refine Aai h (fun _ h=>?_)))
      | ((with_reducible show Mv _ _ _); refine Bq h (fun _ _ _ _ h=>?_))
      | ((with_reducible show J5 _ _ _ _ _); (first | refine H6 h (fun _ _ _ _ h=>?_) | refine Fr h (fun _ _ _ _ h=>?_)))
      | ((with_reducible show Gn _ _ _ _); refine Jl ?_)
      | ((with_reducible show Mw _ _ _ _); refine Aaj ?_)
      | ((with_reducible show G7 _ _ _ _ _ _ _); (first | refine Aak h (fun _ h=>?_) | refine Oo h (fun _ h=>?_) | refine Aal h (fun _ h=>?_)))
      | ((with_reducible show J7 _ _ _); (first | refine Aam h (fun _ h=>?_) | refine Aan h (fun _ h=>?_)))
      | ((with_reducible show Lg _ _ _ _ _); refine Em h (fun _ h=>?_))
      | ((with_reducible show J6 _ _ _ _); (first | refine Aao h (fun _ h=>?_) | refine Kx h (fun _ h=>?_)))
      | ((with_reducible show Ds _ _ _); (first | refine Jj ?_ | refine Jk ?_))
      | ((with_reducible show Pm _ _ _); refine M8 h (fun _ h=>?_))
      | ((with_reducible show Pg _ _ _ _); refine M7 h (fun _ h=>?_))
      | ((with_reducible show Ph _ _ _); refine P9 h (fun _ h=>?_))
      | ((with_reducible show Pj _ _ _ _); refine Zr h (fun _ h=>?_))
      | ((with_reducible show Pi _ _ _ _); refine Qa h (fun _ h=>?_))
      | ((with_reducible show Pk _ _ _ _); refine Uf h (fun _ _ _ _ h=>?_))
      | ((with_reducible show Pn _ _); refine D5 h (fun h=>?_))
      | ((with_reducible show Po _ _ _ _ _); refine Zl h (fun _ h=>?_))
      | ((with_reducible show Pp _ _ _ _); refine Zm h (fun _ h=>?_)))
    | (have h:=Option.some.inj h; subst h; exact rfl)
    | (cases h; (repeat refine ⟨rfl,?_⟩); exact trivial)
    | (cases h; done)
):P:=h
end Go.Ab
namespace Go.Ab
open Go Go.Proofs
set_option maxRecDepth 10000
set_option linter.unusedVariables false
theorem Ag8 {a0 r:List Ct} (h:B1 16 [] a0=some r):Aq Go.Proofs.Tryz.prog 255 [Ap 2 Ek a0] (Ap 2 Ek r):=by
 have h:((B1 16 [] a0).bind fun o=>some o)=some r:=by rw [h]; rfl
 refine pw {T:=B5,an:=(fun s=>bif Nat.beq s 5 then .own else .ask),nl:=(fun s=>bif Nat.beq s 2 then [(0,2)] else [])} Tryz.func255 ?_
 refine Ay ?_
 refine Bw ?_
 refine ZO ?_
 refine Ay (Ay ?_)
 refine Kf (fun b:Bool=>b=true->a0 = []) (fun b=>[(4,Ao b)]) (fun _=>[]) (fun _=>rfl) ?_ ?_
 .intro K hK
  refine Ul 0 ?_
  intro v hv
  obtain ⟨p,c,rfl,hp⟩:=hv 2 (a0.map Ek) rfl
  refine Bw ?_
  refine nx ?_
  refine nx ?_
  refine He ?_
  refine hK p.isNone _ _ _ (fun e=>?_) ⟨rfl,trivial⟩ trivial
  cases p with
  | none=>simpa using hp rfl
  | some _=>cases e
 .rintro b _ hb
  cases b with
  | true=>
   have hb:=hb rfl
   subst hb
   have h:some ([]:List Ct)=some r:=by rw [<-h]; rfl
   exact Y
  | false=>
   refine Z ?_
   exact Y
theorem Ag9 {a0 r:List Cl} (h:B1 40 [] a0=some r):Aq Go.Proofs.Tryz.prog 235 [Ap 3 Dl a0] (Ap 3 Dl r):=by
 have h:((B1 40 [] a0).bind fun o=>some o)=some r:=by rw [h]; rfl
 refine pw {T:=B5,an:=(fun s=>bif Nat.beq s 5 then .own else .ask),nl:=(fun s=>bif Nat.beq s 2 then [(0,3)] else [])} Tryz.func235 ?_
 refine Ay ?_
 refine Bw ?_
 refine ZO ?_
 refine Ay (Ay ?_)
 refine Kf (fun b:Bool=>b=true->a0 = []) (fun b=>[(4,Ao b)]) (fun _=>[]) (fun _=>rfl) ?_ ?_
 .intro K hK
  refine Ul 0 ?_
  intro v hv
  obtain ⟨p,c,rfl,hp⟩:=hv 3 (a0.map Dl) rfl
  refine Bw ?_
  refine nx ?_
  refine nx ?_
  refine He ?_
  refine hK p.isNone _ _ _ (fun e=>?_) ⟨rfl,trivial⟩ trivial
  cases p with
  | none=>simpa using hp rfl
  | some _=>cases e
 .rintro b _ hb
  cases b with
  | true=>
   have hb:=hb rfl
   subst hb
   have h:some ([]:List Cl)=some r:=by rw [<-h]; rfl
   exact Y
  | false=>
   refine Z ?_
   exact Y
theorem Aha {a0 r:List B6} (h:B1 40 [] a0=some r):Aq Go.Proofs.Tryz.prog 241 [Ap 3 Df a0] (Ap 3 Df r):=by
 have h:((B1 40 [] a0).bind fun o=>some o)=some r:=by rw [h]; rfl
 refine pw {T:=B5,an:=(fun s=>bif Nat.beq s 5 then .own else .ask),nl:=(fun s=>bif Nat.beq s 2 then [(0,3)] else [])} Tryz.func241 ?_
 refine Ay ?_
 refine Bw ?_
 refine ZO ?_
 refine Ay (Ay ?_)
 refine Kf (fun b:Bool=>b=true->a0 = []) (fun b=>[(4,Ao b)]) (fun _=>[]) (fun _=>rfl) ?_ ?_
 .intro K hK
  refine Ul 0 ?_
  intro v hv
  obtain ⟨p,c,rfl,hp⟩:=hv 3 (a0.map Df) rfl
  refine Bw ?_
  refine nx ?_
  refine nx ?_
  refine He ?_
  refine hK p.isNone _ _ _ (fun e=>?_) ⟨rfl,trivial⟩ trivial
  cases p with
  | none=>simpa using hp rfl
  | some _=>cases e
 .rintro b _ hb
  cases b with
  | true=>
   have hb:=hb rfl
   subst hb
   have h:some ([]:List B6)=some r:=by rw [<-h]; rfl
   exact Y
  | false=>
   refine Z ?_
   exact Y
end Go.Ab
namespace Go.Ab
open Go Go.Proofs Go.Shelf
set_option maxRecDepth 100000
set_option linter.unusedVariables false
def Ahb:Ren:={f:=fun x=>match x with | 189=>60 | 125=>120 | 257=>119 | 128=>188 | 129=>189 | 294=>180 | 295=>181 | 296=>182 | 297=>183 | 298=>184 | 299=>185 | 216=>117 | 300=>186 | 301=>187 | 328=>257 | 329=>258 | 330=>259 | 331=>260 | 332=>261 | 215=>167 | 343=>304 | n=>n,t:=fun x=>match x with | 28=>52 | 3=>3 | 46=>164 | 0=>0 | 51=>133 | 53=>140 | 4=>4 | 183=>218 | 182=>217 | 131=>102 | 5=>5 | 9=>9 | 218=>292 | 222=>148 | 228=>346 | 229=>347 | n=>n,g:=fun n=>n}
theorem Ahc:Lays.n189 Go.Proofs.Tryz.prog Ahb:=by
 constructor
 all_goals first | kernel_rfl | (intro w; kernel_rfl) | constructor
 all_goals first | kernel_rfl | (intro w; kernel_rfl)
theorem Bn.up {σ:An} {ι:A9} {H:Hp} {F:An} {w w':World} {x:Nat} (h:Bn σ ι H F w x) (hk:∀(b:Nat) (o:Obj),w.heap[b]? = some o->w'.heap[b]? = some o):Bn σ ι H F w' x:=by
 unfold Bn at h ⊢
 cases hx:H x with
 | none=>rw [hx] at h; exact h
 | dead=>trivial
 | cells E cs=>
  rw [hx] at h
  obtain ⟨b,C,h1,h2,h3,g,f⟩:=h
  exact ⟨b,C,h1,h2,h3,hk _ _ g,f⟩
 | rows E sz xs=>
  rw [hx] at h
  obtain ⟨h0,h1,h2⟩:=h
  refine ⟨h0,h1,?_⟩
  rcases h2 with h2 | ⟨b,c,C,l,e2,k,j,i⟩
  .exact .inl h2
  .exact .inr ⟨b,c,C,l,e2,k,hk _ _ j,i⟩
 | map es=>
  rw [hx] at h
  obtain ⟨b,M,t,h1,h2,h3,g,f⟩:=h
  exact ⟨b,M,t,h1,h2,h3,hk _ _ g,f⟩
theorem St.growG {σ:An} {ι:A9} {H:Hp} {F:An} {W w:World} (s:St σ ι H F W w) (k:Nat) (os:Array Obj):St σ ι H F W (Sort.grow (Sort.ahead w k) os):=by
 have hk:∀(b:Nat) (o:Obj),w.heap[b]? = some o->(Sort.grow (Sort.ahead w k) os).heap[b]? = some o:=by
  intro b o h
  have c:=(Array.getElem?_eq_some_iff.1 h).1
  show (w.heap++os)[b]? = _
  rw [Array.getElem?_append_left c]; exact h
 exact ⟨fun b o h=>hk b o (s.sto b o h),fun b o h=>⟨hk b o (s.fra b o h).1,(s.fra b o h).2⟩,fun h=>(s.obj h).up hk,s.inj,s.os,s.tape,s.output,s.glo⟩
theorem Ahd {α:Type} [Inhabited α] (enc:α->Value) (w:World) (b:Nat) (d:Array α) (C:Array Value) (E:TypeId) (h:w.heap[b]? = some (.cells C E (0,0))):Sort.putRow enc w b 0 d=w.setRow b (Sort.putCells enc 0 d C):=by
 have c:(Sort.putRow enc w b 0 d).heap=(w.setRow b (Sort.putCells enc 0 d C)).heap:=by
  apply Array.ext_getElem?
  intro i
  simp only [Sort.putRow,Sort.mapBlock,World.setRow,Array.getElem?_modify]
  split
  .rename_i e; subst e
   rw [h]; simp [Sort.onCells]
  .rfl
 unfold Sort.putRow Sort.mapBlock World.setRow at c ⊢
 simp only at c
 rw [c]
theorem Ahe {b r:List Int} (h:Zc b=some r) (M:b≠[]):Bp Go.Proofs.Tryz.prog 60 [.arr 0 b.length 0 b.length] [.rows 3 1 (List.map (O .i64) b)] (.tup []) [.rows 3 1 (List.map (O .i64) r)]:=by
 cases h
 .skip
  refine ⟨⟨_,Tryz.func60,by kernel_rfl,by kernel_rfl⟩,fun σ F W w ι vs s J=>?_⟩
  obtain ⟨v,rfl,hv⟩:=Mh J
  have U:hp [.rows 3 1 (List.map (O .i64) b)] 0 = .rows 3 1 (List.map (O .i64) b):=rfl
  have l:=hv.arr_inv U (by simp)
  have hor:=s.obj 0
  unfold Bn at hor
  rw [U] at hor
  obtain ⟨_,G,hor⟩:=hor
  rw [List.length_map] at G
  rcases hor with ⟨_,E⟩ | ⟨g,q,D,hg,g1,g2,g3,g4,g5,g6⟩
  .exact (M (by simpa using E)).elim
  .rw [List.length_map] at g5
   unfold Dr at l
   rw [hg] at l
   simp only [Nat.zero_mul,Nat.zero_add,Nat.sub_zero] at l
   obtain ⟨ht,B⟩:=l
   subst B
   have k:∀(j:Nat) (x:Int),b[j]? = some x->D[j]? = some (Value.int .i64 x):=by
    intro j x hx
    obtain ⟨gg,q1,q2,q3⟩:=g6
    have A:(List.map (O .i64) b)[j]? = some (O .i64 x):=by rw [List.getElem?_map,hx]; rfl
    have N:j<(List.map (O .i64) b).length:=(List.getElem?_eq_some_iff.1 A).1
    have Y:=q3 j 0 N (by omega)
    have X:=(q2 j _ 0 _ A rfl).1
    have:gg j 0=Value.int .i64 x:=by
     generalize gg j 0=z at X
     cases X; rfl
    rw [this] at Y
    simpa using Y
   have hH:Sort.Holds (Value.int .i64) w g 0 b.toArray:=by
    intro j hj
    have hj':j<b.length:=by simpa using hj
    have hx:b[j]? = some b[j]:=List.getElem?_eq_getElem hj'
    have hD:=k j _ hx
    have e1:b.toArray[j]! = b[j]:=by
     rw [getElem!_pos b.toArray j hj]; simp
    rw [e1]
    refine ⟨?_,?_⟩
    .rw [Nat.zero_add,Fi g3]; exact hD
    .simp [World.frozen?,g3]
   have call:=Any.slices_Sort_int Ahc g 0 q b w hH (Array.getElem?_eq_some_iff.1 g3).1 (by omega)
   refine call.mono ?_
   rintro e w' ⟨rfl,n,os,rfl⟩
   generalize hr:b.mergeSort (fun x y=>decide (x<=y))=r
   have I:r.length=b.length:=by rw [<-hr]; exact List.length_mergeSort b
   have L:(Sort.putCells (Value.int .i64) 0 r.toArray D).size=q*1:=by unfold Sort.putCells; rw [Array.size_mapIdx]; exact g4
   obtain ⟨V,le⟩:=s.setRows 0 3 1 _ (List.map (O .i64) r) U g q hg (by simp [I]) (Sort.putCells (Value.int .i64) 0 r.toArray D) L (by
    refine ⟨fun i _=>match r[i]? with | some z=>.int .i64 z | none=>.bool false,?_,?_,?_⟩
    .intro i x hx
     rw [List.getElem?_map] at hx
     obtain ⟨z,Z,rfl⟩:=Option.map_eq_some_iff.1 hx
     rfl
    .intro i x j c hx f
     rw [List.getElem?_map] at hx
     obtain ⟨z,Z,rfl⟩:=Option.map_eq_some_iff.1 hx
     have f:([O .i64 z]:List AV)[j]? = some c:=f
     match j with
     | 0=>cases f; simp only [Z]; exact ⟨.val _,rfl⟩
     | j+1=>simp at f
    .intro i j hi hj
     have R:j=0:=by omega
     subst R
     have u:i<r.length:=by simpa using hi
     have S:i<D.size:=by rw [g4]; omega
     simp only [Nat.mul_one,Nat.add_zero,List.getElem?_eq_getElem u]
     unfold Sort.putCells
     rw [Array.getElem?_mapIdx,Array.getElem?_eq_getElem S]
     simp only [Option.map_some,Nat.zero_le,true_and,Nat.zero_add,List.size_toArray,u,if_true,Nat.sub_zero]
     congr 2
     rw [getElem!_pos r.toArray i (by simpa using u)]; simp)
   have eH:Au (hp [.rows 3 1 (List.map (O .i64) b)]) 0 (.rows 3 1 (List.map (O .i64) r))=hp [.rows 3 1 (List.map (O .i64) r)]:=by
    funext i
    match i with
    | 0=>rfl
    | i+1=>rfl
   rw [eH] at le V
   have eW:Sort.grow (Sort.putRow (Value.int .i64) (Sort.ahead w n) g 0 r.toArray) os=Sort.grow (Sort.ahead (w.setRow g (Sort.putCells (Value.int .i64) 0 r.toArray D)) n) os:=by
    rw [Ahd (Value.int .i64) (Sort.ahead w n) g r.toArray D 3 g3]
    rfl
   rw [eW]
   exact ⟨_,σ,ι,rfl,le,V.growG n os,.tup _ _ rfl (fun i c v h1 _=>by cases h1)⟩
end Go.Ab
