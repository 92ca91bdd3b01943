/- Contracts of strings.Builder and strconv.Itoa. -/
import Derived.Test.YtjjkmepjaemceaaGreatDoorBlTy
import Derived.Test.YtjjkmepjaemceaaGreatDoorBlHandB
import Derived.Shelf.Strconv.Itoa4
import Derived.KernelRfl
namespace Go.Ab
open Go Go.Proofs Go.Shelf
set_option maxRecDepth 100000
def Aeu:Ren:={f:=fun x=>match x with | 171=>193 | 173=>262 | 243=>260 | 246=>315 | 283=>334 | 284=>335 | 285=>336 | 286=>337 | 129=>218 | 317=>353 | 318=>354 | 319=>355 | 320=>356 | 337=>358 | 338=>359 | n=>n,t:=fun x=>match x with | 3=>3 | 9=>9 | 2=>2 | 4=>4 | 171=>371 | 0=>0 | 53=>128 | 37=>230 | 5=>5 | 173=>373 | 212=>388 | 51=>129 | 20=>20 | 213=>389 | 46=>188 | 232=>391 | 233=>392 | n=>n,g:=fun x=>match x with | 17=>0 | 18=>1 | 19=>2 | n=>n}
theorem Aev:LaysM.n171 Go.Proofs.Tryz.prog Aeu:=by
 constructor
 constructor
 all_goals first | kernel_rfl | (intro w; kernel_rfl)
theorem St.grown {σ:Av} {F:Av} {W w:World} (s:St σ ι0 H0 F W w) (k:Nat) (os:Array Obj):St σ ι0 H0 F W (Sort.grow (w.drewN k) os):=by
 have hk:∀(b:Nat) (o:Obj),w.heap[b]? = some o->(Sort.grow (w.drewN k) os).heap[b]? = some o:=by
  intro b o h
  have c:=(Array.getElem?_eq_some_iff.1 h).1
  show (w.heap++os)[b]? = _
  rw [Array.getElem?_append_left c]; exact h
 exact ⟨fun b o h=>hk b o (s.sto b o h),fun b o h=>⟨hk b o (s.fra b o h).1,(s.fra b o h).2⟩,fun _=>rfl,(fun _ _ _ f=>by cases f),s.os,s.tape,s.output,s.glo⟩
theorem Aew {σ:Av} {ι:Bn} {H:Hp} {F:Av} {W w:World} (s:St σ ι H F W w):Lib.TabIs Go.Proofs.Tryz.prog w "internal/strconv.uint64pow10" .u64 Lib.pow10Tab:=by
 obtain ⟨E,fr,e⟩:=s.glo
 have h:=s.sto _ _ e
 have g:Go.Proofs.Tryz.prog.globalNamed "internal/strconv.uint64pow10" = some 0:=Aev.m17
 unfold Lib.TabIs World.var?
 rw [g]
 simp only [Option.bind_some,h]
theorem Ts {σ:Av} {ι:Bn} {H:Hp} {x:AV} {vs:Array Value} (h:Jf σ ι H [x] vs):∃v,vs = #[v]/\Conc σ ι H x v:=by
 obtain ⟨h1,h2⟩:=h
 have h1:vs.size=1:=h1
 refine ⟨vs[0],?_,h2 0 x _ rfl (by simp [h1])⟩
 apply Array.ext
 .simp [h1]
 .intro i hi b
  have:i=0:=by omega
  subst this; rfl
theorem Anh {a0:Int} {r:ByteArray} (h:K1 a0=some r):Ar Go.Proofs.Tryz.prog 193 [O .i64 a0] (C8 r):=by
 unfold K1 at h
 split at h
 .rename_i hc
  cases h
  refine ⟨⟨_,Tryz.func193,by kernel_rfl,by kernel_rfl⟩,fun σ F W w vs s b=>?_⟩
  obtain ⟨v,rfl,c⟩:=Ts b
  have c:=c.val_inv
  subst c
  have:=Any.strconv_Itoa Aev a0 hc.1 hc.2 w (Aew s)
  refine this.mono ?_
  rintro e w' ⟨rfl,k,os,rfl⟩
  exact ⟨_,σ,rfl,Av.le_refl σ,s.grown k os,.of_val _⟩
 .cases h
theorem Ani:LaysM.n173 Go.Proofs.Tryz.prog Aeu:=by
 constructor
 constructor
 all_goals first | kernel_rfl | (intro w; kernel_rfl)
theorem Anj {σ:Av} {ι:Bn} {H:Hp} {x y:AV} {vs:Array Value} (h:Jf σ ι H [x,y] vs):∃v u,vs = #[v,u]/\Conc σ ι H x v/\Conc σ ι H y u:=by
 obtain ⟨h1,h2⟩:=h
 have h1:vs.size=2:=h1
 refine ⟨vs[0],vs[1],?_,h2 0 x _ rfl (by simp [h1]),h2 1 y _ rfl (by simp [h1])⟩
 apply Array.ext
 .simp [h1]
 .intro i hi b
  rcases (by omega:i=0\/i=1) with h | h
  .subst h; rfl
  .subst h; rfl
theorem Ank {a0 a1:Int} {r:ByteArray} (h:Vg a0 a1=some r):Ar Go.Proofs.Tryz.prog 262 [O .i64 a0,O .i64 a1] (C8 r):=by
 unfold Vg at h
 cases hb:a1==10 with
 | false=>rw [hb] at h; cases h
 | true=>
  rw [hb] at h
  have hb:=eq_of_beq hb
  subst hb
  have h:K1 a0=some r:=h
  unfold K1 at h
  split at h
  .rename_i hc
   cases h
   refine ⟨⟨_,Tryz.func262,by kernel_rfl,by kernel_rfl⟩,fun σ F W w vs s b=>?_⟩
   obtain ⟨v,u,rfl,c,hu⟩:=Anj b
   have c:=c.val_inv
   have hu:=hu.val_inv
   subst c; subst hu
   have:=Any.strconv_FormatInt_10 Ani a0 hc.1 hc.2 w (Aew s)
   refine this.mono ?_
   rintro e w' ⟨rfl,k,os,rfl⟩
   exact ⟨_,σ,rfl,Av.le_refl σ,s.grown k os,.of_val _⟩
  .cases h
theorem We (o:Bc) (os:List Bc):hp (o::os) 0=o:=rfl
theorem Anl (x:AV) (rest:List Bc):Cn Go.Proofs.Tryz.prog 258 [.loc 0 0] (.cells 232 [.loc 0 0,x]::rest) (.tup []) (.cells 232 [.loc 0 0,x]::rest):=by
 refine ⟨⟨_,Tryz.func258,by kernel_rfl,by kernel_rfl⟩,fun σ F W w ι vs s f=>?_⟩
 obtain ⟨v,rfl,k⟩:=Ts f
 obtain ⟨b,hb,k⟩:=k.loc_inv
 subst k
 have l:=s.obj 0
 unfold B9 at l
 rw [We] at l
 obtain ⟨A,C,y,_,_,h3,u,z⟩:=l
 rw [hb] at y; cases y
 have u:C.size=2:=u
 have g:C[0]? = some C[0]:=by simp [u]
 have q:=z 0 (.loc 0 0) C[0] rfl g
 obtain ⟨b2,h,j⟩:=q.loc_inv
 rw [hb] at h; cases h
 have cell:w.cell? ⟨b,0,none⟩=some (.pointer (some ⟨b,0,none⟩)):=by
  rw [Ip h3,g,j]
 refine (Tryz.check_used b w cell).mono ?_
 rintro e w' ⟨rfl,rfl⟩
 exact ⟨_,σ,ι,rfl,Le.refl _ _ _,s,.tup _ _ rfl (fun i c v h1 _=>by cases h1)⟩
theorem Anm (x:AV) (rest:List Bc):Cn Go.Proofs.Tryz.prog 258 [.loc 0 0] (.cells 232 [.val (.pointer none),x]::rest) (.tup []) (.cells 232 [.loc 0 0,x]::rest):=by
 refine ⟨⟨_,Tryz.func258,by kernel_rfl,by kernel_rfl⟩,fun σ F W w ι vs s j=>?_⟩
 obtain ⟨v,rfl,q⟩:=Ts j
 obtain ⟨b,hb,q⟩:=q.loc_inv
 subst q
 have u:=s.obj 0
 unfold B9 at u
 rw [We] at u
 obtain ⟨E,C,A,_,_,h3,g,z⟩:=u
 rw [hb] at A; cases A
 have g:C.size=2:=g
 have k:C[0]? = some C[0]:=by simp [g]
 have l:=(z 0 (.val (.pointer none)) C[0] rfl k).val_inv
 have cell:w.cell? ⟨b,0,none⟩=some (.pointer none):=by
  rw [Ip h3,k,l]
 refine (Tryz.check_fresh b w cell (by simp [World.shape?,h3,g]) (by simp [World.frozen?,h3])).mono ?_
 rintro e w' ⟨rfl,rfl⟩
 obtain ⟨s',le⟩:=s.setBox 0 232 [.val (.pointer none),x] [.loc 0 0,x] rfl b hb #[.pointer (some ⟨b,0,none⟩),C[1]] rfl (by
  intro i c v h1 h2
  match i with
  | 0=>simp at h1 h2; subst h1; subst h2; exact .loc 0 0 b hb
  | 1=>simp at h1 h2; subst h1; subst h2; exact z 1 x _ rfl (by simp [g])
  | i+2=>simp at h1)
 have D:A5 (hp (.cells 232 [.val (.pointer none),x]::rest)) 0 (.cells 232 [.loc 0 0,x])=hp (.cells 232 [.loc 0 0,x]::rest):=by
  funext i
  cases i with
  | zero=>rfl
  | succ i=>rfl
 have B:w.setCell ⟨b,0,none⟩ (.pointer (some ⟨b,0,none⟩))=w.setRow b #[.pointer (some ⟨b,0,none⟩),C[1]]:=by
  have h:C.setIfInBounds 0 (.pointer (some ⟨b,0,none⟩)) = #[.pointer (some ⟨b,0,none⟩),C[1]]:=by
   apply Array.ext
   .simp [g]
   .intro i hi y
    match i with
    | 0=>simp
    | 1=>rw [Array.getElem_setIfInBounds_ne _ (by decide)]; rfl
    | i+2=>simp at y; omega
  have f:(w.setCell ⟨b,0,none⟩ (.pointer (some ⟨b,0,none⟩))).heap=(w.setRow b #[.pointer (some ⟨b,0,none⟩),C[1]]).heap:=by
   apply Array.ext_getElem?
   intro i
   simp only [World.setCell,World.setRow,Array.getElem?_modify]
   split
   .rename_i e; subst e
    rw [h3]; simp [h]
   .rfl
  unfold World.setCell World.setRow at f ⊢
  simp only at f
  rw [f]
 rw [D] at s' le
 rw [B]
 exact ⟨_,σ,ι,rfl,le,s',.tup _ _ rfl (fun i c v h1 _=>by cases h1)⟩
theorem Ano {l:List Int} (h:∀x∈l,0<=x/\x<256) {j:Nat} {x:UInt8} (hx:(Ej l)[j]? = some x):l[j]? = some (x.toNat:Int):=by
 simp only [Ej,List.getElem?_map,Option.map_eq_some_iff] at hx
 obtain ⟨y,hy,rfl⟩:=hx
 have b:=h y (List.mem_of_getElem? hy)
 rw [hy]
 congr 1
 have:y.toNat<256:=by omega
 simp only [UInt8.toNat_ofNat']
 omega
theorem St.kill {σ:Av} {ι:Bn} {H:Hp} {F:Av} {W w:World} (s:St σ ι H F W w) (h:Nat):St σ ι (A5 H h .dead) F W w/\Le σ ι H σ ι (A5 H h .dead):=by
 have le:Le σ ι H σ ι (A5 H h .dead):=by
  have:=Le.upd (ι:=ι) (H:=H) (Av.le_refl σ) h (ι h) .dead ⟨fun _ e=>e,(fun _ e=>by cases e),(fun _ k j i e=>by cases e)⟩
  rwa [Im] at this
 obtain ⟨f1,f2⟩:=s.fresh
 refine ⟨s.touch h w.heap.size (fun _ _=>rfl) (fun x e=>Cl _ _ e) le (fun _ _=>rfl) (fun _ _=>rfl) (fun o g=>by rw [f1] at g; cases g) ?_ f2 ?_ ?_ rfl rfl rfl,le⟩
 .intro x _ c f
  have:=(s.block c f).1
  omega
 .intro b c
  rw [B4] at c; cases c
 .unfold B9
  rw [B4]; trivial
theorem Anp {p:AV}:Cn Go.Proofs.Tryz.prog 195 [.loc 0 0] [.cells 232 [p,.arr 1 0 0 0],.rows 5 1 []] (C8 .empty) [.cells 232 [p,.arr 1 0 0 0],.dead]:=by
 refine ⟨⟨_,Tryz.func195,by kernel_rfl,by kernel_rfl⟩,fun σ F W w ι vs s u=>?_⟩
 obtain ⟨v,rfl,I⟩:=Ts u
 obtain ⟨b,hb,I⟩:=I.loc_inv
 subst I
 have J:=s.obj 0
 unfold B9 at J
 rw [We] at J
 obtain ⟨b',C,X,_,_,h3,z,h5⟩:=J
 rw [hb] at X; cases X
 have z:C.size=2:=z
 have Z:C = #[C[0],C[1]]:=by
  apply Array.ext
  .simp [z]
  .intro i hi L
   match i with
   | 0=>rfl
   | 1=>rfl
   | i+2=>simp at L; omega
 have N:=h5 1 (.arr 1 0 0 0) C[1] rfl (by simp [z])
 have l:hp [Bc.cells 232 [p,.arr 1 0 0 0],.rows 5 1 []] 1 = .rows 5 1 []:=rfl
 have c:=N.arr_inv l (by simp)
 have hor:=s.obj 1
 unfold B9 at hor
 rw [l] at hor
 obtain ⟨_,U,hor⟩:=hor
 have eH:A5 (hp [Bc.cells 232 [p,.arr 1 0 0 0],.rows 5 1 []]) 1 .dead=hp [Bc.cells 232 [p,.arr 1 0 0 0],.dead]:=by
  funext i
  match i with
  | 0=>rfl
  | 1=>rfl
  | i+2=>rfl
 have go:∀(a q:Option Addr) (cap:Nat) (y:Av) (h:World),C[1] = .slice a 0 cap->h.heap[b]? = w.heap[b]?->(Builtin.unsafeSliceData_ #[230] 304 #[.slice a 0 cap]).run Go.Proofs.Tryz.prog w.drew = .ok (.pointer q) h ->
   Le σ ι (hp [Bc.cells 232 [p,.arr 1 0 0 0],.rows 5 1 []]) y ι (hp [Bc.cells 232 [p,.arr 1 0 0 0],.rows 5 1 []])->St y ι (hp [Bc.cells 232 [p,.arr 1 0 0 0],.rows 5 1 []]) F W h ->
   Calls Go.Proofs.Tryz.prog 195 #[.pointer (some ⟨b,0,none⟩)] w fun e w'=>∃v A B,e = .returned v/\Le σ ι (hp [Bc.cells 232 [p,.arr 1 0 0 0],.rows 5 1 []]) A B (hp [Bc.cells 232 [p,.arr 1 0 0 0],.dead])/\St A B (hp [Bc.cells 232 [p,.arr 1 0 0 0],.dead]) F W w'/\Conc A B (hp [Bc.cells 232 [p,.arr 1 0 0 0],.dead]) (C8 .empty) v:=by
  intro a q cap y h f M R le E
  have x:w.heap[b]? = some (.cells #[C[0],.slice a 0 cap] 232 (0,0)):=by
   rw [h3]; congr 1; rw [<-f,<-Z]
  refine (Tryz.builder_str0 b cap C[0] a q w h x (M.trans x) R).mono ?_
  rintro e w' ⟨rfl,rfl⟩
  obtain ⟨S,k⟩:=E.kill 1
  rw [eH] at S k
  exact ⟨_,y,ι,rfl,le.trans k,S,.of_val _⟩
 rcases hor with ⟨hi,_⟩ | ⟨g,j,D,Y,g1,g2,g3,g4,g5,g6⟩
 .unfold Hb at c
  rw [hi] at c
  exact go none none 0 σ w.drew c.1 rfl rfl (Le.refl _ _ _) (s.drew _)
 .unfold Hb at c
  rw [Y] at c
  simp only [Nat.zero_mul,Nat.zero_add,Nat.sub_zero] at c
  obtain ⟨_,f⟩:=c
  by_cases ht:j=0
  .subst ht
   obtain ⟨E,G⟩:=(s.drew (w.drawn+1)).newFrozen (.view ⟨g,0,none⟩ 5)
   have V:=(Array.getElem?_eq_some_iff.1 h3).1
   refine go _ _ 0 _ (w.drew.alloc (.view ⟨g,0,none⟩ 5)) f ?_ (Lib.run_unsafeSliceData_zero _ _ _ 5 Tryz.underlying304 _ _ (5,D.size) (by
    have:w.drew.heap[g]? = some (.cells D 5 (0,0)):=g3
    simp [World.shape?,this])) G E
   show (w.heap.push _)[b]? = _
   rw [Array.getElem?_push,if_neg (by omega)]
  .exact go _ _ j σ w.drew f rfl (Lib.run_unsafeSliceData_row _ _ _ _ _ _ ht) (Le.refl _ _ _) (s.drew _)
theorem Aex {p:AV} {l:List Int} {r:ByteArray} (h:Rv l=some r):Cn Go.Proofs.Tryz.prog 195 [.loc 0 0] [.cells 232 [p,.arr 1 l.length 0 l.length],.rows 5 1 (List.map (O .u8) l)] (C8 r) [.cells 232 [p,.arr 1 l.length 0 l.length],.dead]:=by
 unfold Rv at h
 split at h
 .rename_i X
  cases h
  by_cases u:l = []
  .subst u; exact Anp
  refine ⟨⟨_,Tryz.func195,by kernel_rfl,by kernel_rfl⟩,fun σ F W w ι vs s J=>?_⟩
  obtain ⟨v,rfl,N⟩:=Ts J
  obtain ⟨b,hb,N⟩:=N.loc_inv
  subst N
  have y:=s.obj 0
  unfold B9 at y
  rw [We] at y
  obtain ⟨b',C,e1,_,_,h3,M,h5⟩:=y
  rw [hb] at e1; cases e1
  have M:C.size=2:=M
  have hC:C = #[C[0],C[1]]:=by
   apply Array.ext
   .simp [M]
   .intro i hi S
    match i with
    | 0=>rfl
    | 1=>rfl
    | i+2=>simp at S; omega
  have V:=h5 1 (.arr 1 l.length 0 l.length) C[1] rfl (by simp [M])
  have I:hp [Bc.cells 232 [p,.arr 1 l.length 0 l.length],.rows 5 1 (List.map (O .u8) l)] 1 = .rows 5 1 (List.map (O .u8) l):=rfl
  have k:=V.arr_inv I (by simp)
  have hor:=s.obj 1
  unfold B9 at hor
  rw [I] at hor
  obtain ⟨_,G,hor⟩:=hor
  rw [List.length_map] at G
  rcases hor with ⟨_,E⟩ | ⟨g,q,D,hg,g1,g2,g3,g4,g5,g6⟩
  .exact (u (by simpa using E)).elim
  .rw [List.length_map] at g5
   unfold Hb at k
   rw [hg] at k
   simp only [Nat.zero_mul,Nat.zero_add,Nat.sub_zero] at k
   obtain ⟨ht,B⟩:=k
   have c:(Ej l).length=l.length:=by simp [Ej]
   have f:∀(j:Nat) (x:UInt8),(Ej l)[j]? = some x->D[j]? = some (Value.int .u8 x.toNat):=by
    intro j x hx
    have hj:=Ano X hx
    obtain ⟨gg,q1,q2,q3⟩:=g6
    have A:(List.map (O .u8) l)[j]? = some (O .u8 x.toNat):=by rw [List.getElem?_map,hj]; rfl
    have R:j<(List.map (O .u8) l).length:=(List.getElem?_eq_some_iff.1 A).1
    have q4:=q3 j 0 R (by omega)
    have q5:=(q2 j _ 0 _ A rfl).1
    have:gg j 0=Value.int .u8 x.toNat:=by
     generalize gg j 0=z at q5
     cases q5; rfl
    rw [this] at q4
    simpa using q4
   have Z:w.heap[b]? = some (.cells #[C[0],.slice (some ⟨g,0,none⟩) (Ej l).length q] 232 (0,0)):=by
    rw [h3]; congr 1; rw [c]
    have:C[1] = .slice (some ⟨g,0,none⟩) l.length q:=B
    rw [<-this,<-hC]
   have a1:l.length<=D.size:=by rw [g4]; omega
   have call:=Tryz.builder_str b g q C[0] D (Ej l) w (by intro e; apply u; rw [<-List.length_eq_zero_iff,<-c,e]; rfl) Z g3 (by rw [c]; exact g5) (by rw [c]; exact a1) (by rw [c]; omega) f
   refine call.mono ?_
   rintro e w' ⟨rfl,rfl⟩
   have le:Le σ ι (hp [Bc.cells 232 [p,.arr 1 l.length 0 l.length],.rows 5 1 (List.map (O .u8) l)]) σ ι (A5 (hp [Bc.cells 232 [p,.arr 1 l.length 0 l.length],.rows 5 1 (List.map (O .u8) l)]) 1 .dead):=by
    have:=Le.upd (ι:=ι) (H:=hp [Bc.cells 232 [p,.arr 1 l.length 0 l.length],.rows 5 1 (List.map (O .u8) l)]) (Av.le_refl σ) 1 (ι 1) .dead ⟨fun _ e=>e,(fun _ e=>by cases e),(fun _ E1 a7 a6 e=>by cases e)⟩
    rwa [Im] at this
   have eH:A5 (hp [Bc.cells 232 [p,.arr 1 l.length 0 l.length],.rows 5 1 (List.map (O .u8) l)]) 1 .dead=hp [Bc.cells 232 [p,.arr 1 l.length 0 l.length],.dead]:=by
    funext i
    match i with
    | 0=>rfl
    | 1=>rfl
    | i+2=>rfl
   have s2:St σ ι (A5 (hp [Bc.cells 232 [p,.arr 1 l.length 0 l.length],.rows 5 1 (List.map (O .u8) l)]) 1 .dead) F W (w.drew.freeze ⟨g,0,none⟩ (Ej l).length):=by
    have U:∀b,b≠g->(w.drew.freeze ⟨g,0,none⟩ (Ej l).length).heap[b]? = w.heap[b]?:=by
     intro b hb
     unfold World.freeze
     split
     .rfl
     .simp only [Array.getElem?_modify]
      rw [if_neg (Ne.symm hb)]; rfl
    refine s.touch 1 g (fun _ _=>rfl) (fun x e=>Cl _ _ e) le U (fun _ _=>rfl) (fun o y=>by rw [g1] at y; cases y) ?_ g2 ?_ ?_ ?_ ?_ ?_
    .intro x hx L Y
     exact hx (s.inj x 1 g L rfl Y (by rw [hg]; rfl))
    .intro b0 L
     rw [B4] at L; cases L
    .unfold B9
     rw [B4]; trivial
    .unfold World.freeze; split <;> rfl
    .unfold World.freeze; split <;> rfl
    .unfold World.freeze; split <;> rfl
   rw [eH] at le s2
   exact ⟨_,σ,ι,rfl,le,s2,.of_val _⟩
 .cases h
end Go.Ab
namespace Go.Ab
open Go Go.Proofs
set_option linter.unusedVariables false
class OK {α:Type} (o:Option α) (G:outParam (α->Prop)):Prop where
 ok:∀{r:α},o=some r->G r
theorem okz {α:Type} {G:α->Prop}:OK (none:Option α) G:=⟨fun h=>by cases h⟩
section
variable {P:Program} {C:Cfg} {Qn:Nat->Be->Hp->Prop} {Qe:Nat->Nat->Be->Hp->Prop} {Qr:Nat->Be->Hp->Prop} {n:Nat} {e:Be} {H:Hp} {β:Type} {r:β}
variable {T:Cj} {an:Nat->Ann} {nl:Nat->List (Nat×Nat)} {ops:Array Oper} {o:Oper} {os:List Oper} {acc:F3} {K:Nat->Be->Hp->F3->Prop}
theorem Fs {p:Nat×Bool} {s:Nat} {b:Bool} {m m':Option β} (h:(bif b then m else m')=some r) (h1:b=true->m=some r->Du (Dm P T an nl ops (o::os) n (A5 e s (.val (.bool true))) H acc K))
  (h2:b=false->m'=some r->Du (Dm P T an nl ops (o::os) n (A5 e s (.val (.bool false))) H acc K)) (hg:o.guard=some p:=by exact rfl) (hs:(ops[p.1]?).bind (·.dst)=some s:=by exact rfl) (hb:e s = .val (.bool b):=by exact rfl):Du (Dm P T an nl ops (o::os) n e H acc K):=Amv h h1 h2 hb
theorem nw {c:Code} (k:wc P C c Qn Qe Qr n e H):Du (wc P C c Qn Qe Qr n e H):=.mk k
theorem C1 {S E:Type} {o:S⊕E} {J:E->Option β} {x:E} (h:some (Sum.inr x)=some o) (hx:∀x,Sum.inr x=o->J x=some r:=by assumption):J x=some r:=hx x (Option.some.inj h)
theorem lpj {S:Type} {o:S} {J:S->Option β} {x:S} (h:some x=some o) (hx:∀y,y=o->J y=some r:=by assumption):J x=some r:=hx x (Option.some.inj h)
theorem lpn {S E:Type} {o:S⊕E} {s':S} {K:Nat->Be->Hp->Prop} {iv:S->List (Nat×AV)} {hv:S->List (Nat×Bc)} {inv:S->Prop} {n0:Nat} {H0:Hp} (h:some (Sum.inl s')=some o) (hn:∀s' n' e' H',Sum.inl s'=o->E9 e' (iv s')->Fa H' (Bz H0 (hv s')) n0 n0->inv s'->K n' e' H':=by assumption)
  (hs:E9 e (iv s'):=by (repeat refine ⟨rfl,?_⟩); exact trivial) (hh:Fa H (Bz H0 (hv s')) n0 n0:=by (repeat refine ⟨⟨rfl,rfl⟩,?_⟩); exact trivial) (hi:inv s':=by first | trivial | exact rfl | ((repeat refine Fw ?_ _ _); first | exact rfl | assumption)):K n e H:=hn s' n e H (Option.some.inj h) hs hh hi
theorem jnn {S E:Type} {o x:E} {s:S} {J:S->Prop} {K:Nat->Be->Hp->Prop} {iv:S->List (Nat×AV)} {hv:S->List (Nat×Bc)} {n0:Nat} {H0:Hp} (h:some x=some o) (hn:∀s n' e' H',J s->E9 e' (iv s)->Fa H' (Bz H0 (hv s)) n0 n0->K n' e' H':=by assumption) (hJ:J s:=by exact Option.some.inj h)
  (hs:E9 e (iv s):=by (repeat refine ⟨rfl,?_⟩); exact trivial) (hh:Fa H (Bz H0 (hv s)) n0 n0:=by (repeat refine ⟨⟨rfl,rfl⟩,?_⟩); exact trivial):K n e H:=hn s n e H hJ hs hh
theorem Bo {α:Type} {o:Option α} {m:α->Option β} {f:FuncId} {args:List AV} {G:α->Prop} {ra:α->AV} {K:Eff->Nat->Prop} (h:o.bind m=some r) [i:OK o G] (k:∀v,m v=some r->K ⟨ra v,[],[]⟩ n) (hG:∀v,G v->Ar P f args (ra v):=by exact fun _ h=>h) (hf:args.all AV.free=true:=by exact rfl):Fv P n H f args K :=
 Ea h fun v hv h=>Fv.mk _ (hG v (i.ok hv)) hf (k v h)
theorem Aey {α:Type} {o:Option α} {m:α->Option β} {f:FuncId} {args args':List AV} {G:α->Prop} {ra:α->AV} {K:Eff->Nat->Prop} (h:o.bind m=some r) [i:OK o G] (k:∀v,m v=some r->K ⟨ra v,[],[]⟩ n) (hG:∀v,G v->Ar P f args' (ra v):=by exact fun _ h=>h) (hs:Nm args args':=by (repeat first | refine ⟨Sub.refl _,?_⟩ | refine ⟨Sub.nil _,?_⟩); exact trivial) (hf:args.all AV.free=true:=by exact rfl):Fv P n H f args K :=
 Ea h fun v hv h=>Fv.mk _ (Ar.sub (hG v (i.ok hv)) hs (Sub.refl _)) hf (k v h)
theorem Bl {α:Type} {o:Option α} {m:α->Option β} {f:FuncId} {args largs:List AV} {G:α->Prop} {ra:α->AV} {hs:List Bc} {hs':α->List Bc} {K:Eff->Nat->Prop} (l:List Nat) (h:o.bind m=some r) [i:OK o G] (k:∀v,m v=some r->K ⟨ren (C6 n l) (ra v),wrs (C6 n l) 0 hs++Cm (C6 n l) l.length ((hs' v).length-l.length),wrs (C6 n l) 0 (hs' v)⟩ (n+((hs' v).length-l.length)))
  (hG:∀v,G v->Cn P f largs hs (ra v) (hs' v):=by exact fun _ h=>h) (ha:largs.map (ren (C6 n l))=args:=by exact rfl) (ok:∀v,Pe n l largs hs (ra v) (hs' v)=true:=by exact fun _=>rfl) (hh:Na H (wrs (C6 n l) 0 hs):=by (repeat refine ⟨rfl,?_⟩); exact trivial):Fv P n H f args K :=
 Ea h fun v hv h=>Fv.act l largs hs (ra v) (hs' v) (hG v (i.ok hv)) ha (ok v) hh (k v h)
theorem Ce {α:Type} {l:List α} {f:α->AV} {ys:List AV} {i:Int} {m:α->Option β} {K:Nat->AV->Prop} (h:(Af l i).bind m=some r) (k:∀(n:Nat) (x:α),i=n->l[n]? = some x->m x=some r->K n (f x)) (he:ys=l.map f:=by first | exact rfl | exact Hz _ | exact Iz _ | exact Jt _):Rk ys i K:=Aeb he h k
theorem Ju {α:Type} {l:List α} {f:α->AV} {ys:List AV} {i:Int} {m:α->Option β} {K:Nat->Prop} {len kk:Nat} (h:(Af l i).bind m=some r) (k:∀(n:Nat) (x:α),i=n->l[n]? = some x->m x=some r->K n) (he:ys=l.map f:=by first | exact rfl | exact Hz _ | exact Iz _ | exact Jt _) (hl:len=l.length:=by first | exact rfl | assumption | exact Ib (by assumption) | ((repeat refine Fw ?_ _ _); first | exact rfl | assumption)) (hk:kk=l.length:=by first | exact rfl | assumption | exact Ib (by assumption) | ((repeat refine Fw ?_ _ _); first | exact rfl | assumption)):Nb len kk ys i K:=Amx he hl hk h k
theorem Qq {α:Type} {l:List α} {f:α->AV} {ys:List AV} {i:Int} {m:α->Option β} {K:Nat->Prop} {off len kk:Nat} (h:(Hh l off len i).bind m=some r) (k:∀(n:Nat) (x:α),i=n->l[off+n]? = some x->m x=some r->K n) (he:ys=l.map f:=by first | exact rfl | exact Hz _ | exact Iz _ | exact Jt _) (hk:kk=l.length:=by first | exact rfl | assumption | exact Ib (by assumption) | ((repeat refine Fw ?_ _ _); first | exact rfl | assumption)):Nb len kk ys i K:=Amy he hk h k
theorem Mo {α:Type} {l:List α} {f:α->AV} {ys:List AV} {K:Int->Prop} (k:K (l.length:Int)) (he:ys=l.map f:=by first | exact rfl | exact Hz _ | exact Iz _ | exact Jt _):Jg ys K:=Aeg he k
theorem Mp {α:Type} {l:List α} {f:α->AV} {ys:List AV} {kk:Nat} {K:Prop} (k:K) (he:ys=l.map f:=by first | exact rfl | exact Hz _ | exact Iz _ | exact Jt _) (hk:kk=l.length:=by first | exact rfl | assumption | exact Ib (by assumption) | ((repeat refine Fw ?_ _ _); first | exact rfl | assumption)):Fc kk ys K:=Am6 he hk k
theorem Mq {K:Prop} (k:K):Fc 0 [] K:=.mk rfl k
theorem Mr {α:Type} {l:List α} {f:α->AV} {ys:List AV} {n i kk:Nat} {x:α} {K:AV->Prop} (k:K (f x)) (he:ys=l.map f:=by first | exact rfl | exact Hz _ | exact Iz _ | exact Jt _) (hk:kk=l.length:=by first | exact rfl | assumption | exact Ib (by assumption) | ((repeat refine Fw ?_ _ _); first | exact rfl | assumption)) (hi:i=n:=by first | exact Nat.zero_add _ | exact rfl) (hx:l[n]? = some x:=by assumption):Iq kk i ys K:=Am0 he hk hi hx k
theorem Aez {α:Type} {l:List α} {f:α->AV} {ys:List AV} {n i:Nat} {j:Int} {x:α} {p:AV} {K:List AV->Prop} (k:K ((Cx l j x).map f)) (he:ys=l.map f:=by first | exact rfl | exact Hz _ | exact Iz _ | exact Jt _) (hp:p=f x:=by exact rfl) (hi:i=n:=by first | exact Nat.zero_add _ | exact rfl) (hj:j=(n:Int):=by first | assumption | exact Amw _ (by assumption)):Rm ys i p K:=Lz he hp hi hj k
theorem Oo {α:Type} {l ys:List α} {f:α->AV} {xs zs:List AV} {b kk len:Nat} {m:List α->Option β} {K:List AV->Nat->Prop} (h:(Bx b l ys).bind m=some r) (k:∀o:List α,m o=some r->K (o.map f) o.length) (he:xs=l.map f/\zs=ys.map f:=by first | exact ⟨rfl,rfl⟩ | (refine ⟨?_,?_⟩; rotate_left; exact rfl; exact rfl)) (hk:kk=l.length:=by first | exact rfl | assumption | exact Ib (by assumption) | ((repeat refine Fw ?_ _ _); first | exact rfl | assumption)) (hl:len=l.length:=by first | exact rfl | assumption | exact Ib (by assumption) | ((repeat refine Fw ?_ _ _); first | exact rfl | assumption)):J9 xs zs kk len b K:=Zg he.1 he.2 hk hl h k
theorem Ae0 {l:List Int} {s:ByteArray} {xs:List AV} {b kk len:Nat} {m:List Int->Option β} {K:List AV->Nat->Prop} (h:(Bx b l (Jl s)).bind m=some r) (k:∀o:List Int,m o=some r->K (o.map fun n=>.val (.int .u8 n)) o.length) (he:xs=l.map fun n=>.val (.int .u8 n):=by exact rfl) (hk:kk=l.length:=by first | exact rfl | assumption | exact Ib (by assumption) | ((repeat refine Fw ?_ _ _); first | exact rfl | assumption)) (hl:len=l.length:=by first | exact rfl | assumption | exact Ib (by assumption) | ((repeat refine Fw ?_ _ _); first | exact rfl | assumption)):J9 xs (Gt s) kk len b K:=Am2 he hk hl h k
class GL {α:Type} (g:List α->List AV) (f:outParam (α->AV)):Prop where
 eq:∀l,g l=l.map f
instance:GL Bh C3:=⟨Hz⟩
instance:GL Gg Ek:=⟨Iz⟩
instance:GL Qk V9:=⟨Jt⟩
theorem Ae1 {α:Type} {g:List α->List AV} {f:α->AV} [i:GL g f] {l ys:List α} {zs:List AV} {b kk len:Nat} {m:List α->Option β} {K:List AV->Nat->Prop} (h:(Bx b l ys).bind m=some r) (k:∀o:List α,m o=some r->K (g o) o.length) (hz:zs=ys.map f:=by first | exact rfl | exact GL.eq _) (hk:kk=l.length:=by first | exact rfl | assumption | exact Ib (by assumption) | ((repeat refine Fw ?_ _ _); first | exact rfl | assumption)) (hl:len=l.length:=by first | exact rfl | assumption | exact Ib (by assumption) | ((repeat refine Fw ?_ _ _); first | exact rfl | assumption)):J9 (g l) zs kk len b K:=Am3 i.eq (i.eq l) hz hk hl h k
theorem Ae2 {α:Type} {ys:List α} {f:α->AV} {zs:List AV} {b:Nat} {m:List α->Option β} {K:List AV->Nat->Prop} (h:(Bx b [] ys).bind m=some r) (k:∀o:List α,m o=some r->K (o.map f) o.length) (hz:zs=ys.map f:=by exact rfl):Nd zs b K:=Aef hz h k
theorem Ae3 {α:Type} {g:List α->List AV} {f:α->AV} [i:GL g f] {ys:List α} {zs:List AV} {b:Nat} {m:List α->Option β} {K:List AV->Nat->Prop} (h:(Bx b [] ys).bind m=some r) (k:∀o:List α,m o=some r->K (g o) o.length) (hz:zs=g ys:=by exact rfl):Nd zs b K:=Am4 i.eq (hz.trans (i.eq ys)) h k
theorem Fx {α:Type} {z:α} {f:α->AV} {za:AV} {len cap:Int} {b:Nat} {m:List α->Option β} {K:Nat->List AV->Prop} (h:(E2 b len cap z).bind m=some r) (k:∀o:List α,m o=some r->K o.length (o.map f)) (hz:za=f z:=by first | exact (rfl:_=O _ _) | exact (rfl:_=Am _) | exact rfl):Rl len cap b za K:=Am5 hz h k
theorem Aaf {α:Type} {l:List α} {f:α->AV} {ys:List AV} {lo hi:Int} {m:List α->Option β} {K:List AV->Prop} (h:(Fd l lo hi).bind m=some r) (k:∀l':List α,m l'=some r->K (l'.map f)) (he:ys=l.map f:=by first | exact rfl | exact Hz _ | exact Iz _ | exact Jt _):Nc ys lo hi K:=Aee he h k
theorem Ae4 {α:Type} {l:List α} {f:α->AV} {ys:List AV} {lo:Int} {m:List α->Option β} {K:List AV->Prop} (h:(Fd l lo l.length).bind m=some r) (k:∀l':List α,m l'=some r->K (l'.map f)) (he:ys=l.map f:=by first | exact rfl | exact Hz _ | exact Iz _ | exact Jt _):Nc ys lo ys.length K:=Am1 he h k
theorem Gj {S E:Type} {step:S->Option (S⊕E)} {s0:S} {J:E->Option β} {b:Code} (h:(Ao step s0).bind J=some r) (iv:S->List (Nat×AV)) (hv:S->List (Nat×Bc)) (inv:S->Prop)
  (body:∀(s:S) (u:Nat->Value) (K:Nat->Be->Hp->Prop) (o:S⊕E),step s=some o->(∀x,.inr x=o->J x=some r)->(∀s' n' e' H',.inl s'=o->E9 e' (iv s')->Fa H' (Bz H (hv s')) n n->inv s'->K n' e' H')->inv s ->
   wc P C b K Qe Qr n (Hv (Dz b) e u (iv s)) (Bz H (hv s)))
  (hb:∀s,Ia n (iv s) (hv s)=true:=by exact fun _=>rfl) (hs:E9 e (iv s0):=by (repeat refine ⟨rfl,?_⟩); exact trivial) (hh:Fa H (Bz H (hv s0)) n n:=by (repeat refine ⟨⟨rfl,rfl⟩,?_⟩); exact trivial) (h0:inv s0:=by first | exact rfl | assumption | exact Ib (by assumption) | ((repeat refine Fw ?_ _ _); first | exact rfl | assumption)):wc P C (.loop b) Qn Qe Qr n e H:=Aeo h iv hv inv hb hs hh h0 body
theorem A7 {S E:Type} {step:S->Option (S⊕E)} {s0:S} {J:E->Option β} {b:Code} (h:(Ao step s0).bind J=some r) (iv:S->List (Nat×AV)) (hv:S->List (Nat×Bc))
  (body:∀(s:S) (u:Nat->Value) (K:Nat->Be->Hp->Prop) (o:S⊕E),step s=some o->(∀x,.inr x=o->J x=some r)->(∀s' n' e' H',.inl s'=o->E9 e' (iv s')->Fa H' (Bz H (hv s')) n n->True->K n' e' H') ->
   wc P C b K Qe Qr n (Hv (Dz b) e u (iv s)) (Bz H (hv s)))
  (hb:∀s,Ia n (iv s) (hv s)=true:=by exact fun _=>rfl) (hs:E9 e (iv s0):=by (repeat refine ⟨rfl,?_⟩); exact trivial) (hh:Fa H (Bz H (hv s0)) n n:=by (repeat refine ⟨⟨rfl,rfl⟩,?_⟩); exact trivial):wc P C (.loop b) Qn Qe Qr n e H:=Aeo h iv hv (fun _=>True) hb hs hh trivial fun s u K o h1 h2 h3 _=>body s u K o h1 h2 h3
theorem Tt {S S':Type} {c:Code} {o:Option S'} {m:S'->Option β} (inj:S->S') (h:o.bind m=some r) (iv:S->List (Nat×AV)) (hv:S->List (Nat×Bc))
  (k1:∀x,o=some x->∀(K:Nat->Be->Hp->Prop),(∀s n' e' H',inj s=x->E9 e' (iv s)->Fa H' (Bz H (hv s)) n n->K n' e' H')->(∀y,y=x->m y=some r)->wc P C c K Qe Qr n e H)
  (k2:∀(s:S) (u:Nat->Value),m (inj s)=some r->Qn n (Hv (Dz c) e u (iv s)) (Bz H (hv s))) (hb:∀s,Ia n (iv s) (hv s)=true:=by exact fun _=>rfl):wc P C c Qn Qe Qr n e H :=
 Aea h fun x hx hj=>Zn (fun s=>inj s=x) iv hv hb (fun K hK=>k1 x hx K hK hj) fun s u hs=>k2 s u (hj _ hs)
theorem Bq {S:Type} {c:Code} {o:Option S} {m:S->Option β} (h:o.bind m=some r) (iv:S->List (Nat×AV)) (hv:S->List (Nat×Bc))
  (k1:∀x,o=some x->∀(K:Nat->Be->Hp->Prop),(∀s n' e' H',s=x->E9 e' (iv s)->Fa H' (Bz H (hv s)) n n->K n' e' H')->(∀y,y=x->m y=some r)->wc P C c K Qe Qr n e H)
  (k2:∀(s:S) (u:Nat->Value),m s=some r->Qn n (Hv (Dz c) e u (iv s)) (Bz H (hv s))) (hb:∀s,Ia n (iv s) (hv s)=true:=by exact fun _=>rfl):wc P C c Qn Qe Qr n e H:=Tt (fun s=>s) h iv hv k1 k2 hb
abbrev C0:Cfg:={T:=Ca,an:=fun _=>.ask}
theorem pw {f:FuncId} {fn:Func} {c:Code} {args:List AV} {r:AV} (C:Cfg) (hf:Go.Proofs.Tryz.prog.funcs[f]? = some fn) (hv:wc Go.Proofs.Tryz.prog C c (fun _ e H=>Ni C.T fn.results.toList (· = r) e H) (fun _ _ _ _=>False) (fun _ e H=>Ni C.T fn.results.toList (· = r) e H) 0 (Pk args) H0)
   (hT:C.T=Ca:=by exact rfl) (hb:fn.body=some c:=by exact rfl) (hname:(fn.name == "runtime.NumGoroutine")=false:=by kernel_rfl) (hok:Pl fn c args.length=true:=by kernel_rfl) (hfree:r.free=true:=by exact rfl):Ar Go.Proofs.Tryz.prog f args r:=Am7 (by rw [hT]; exact Aer) Rp hf hb hname hok hfree hv
theorem aw {f:FuncId} {fn:Func} {c:Code} {args:List AV} {r:AV} {hs hs':List Bc} (C:Cfg) (fz:Bool) (hf:Go.Proofs.Tryz.prog.funcs[f]? = some fn) (hv:wc Go.Proofs.Tryz.prog C c (fun _ e H=>Nl C.T fz fn.results.toList r hs' e H) (fun _ _ _ _=>False) (fun _ e H=>Nl C.T fz fn.results.toList r hs' e H) hs.length (Pk args) (hp hs))
   (hT:C.T=Ca:=by exact rfl) (hb:fn.body=some c:=by exact rfl) (hname:(fn.name == "runtime.NumGoroutine")=false:=by kernel_rfl) (hok:Pl fn c args.length=true:=by kernel_rfl) (hok':Zb hs r hs'=true:=by exact rfl):Cn Go.Proofs.Tryz.prog f args hs r hs':=Am8 fz (by rw [hT]; exact Aer) Rp hf hb hname hok hok' hv
end
theorem opk {P:Program} {T:Cj} {an:Nat->Ann} {nl:Nat->List (Nat×Nat)} {o:Oper} {n:Nat} {e:Be} {H:Hp} {acc:F3} {K:Nat->Be->Hp->F3->Prop} (k:opK P T an nl o n e H acc K):opK P T an nl o n e H acc K:=k
theorem cnd {t:Bool} {A B:Prop} (k:bif t then A else B):bif t then A else B:=k
structure Hd (Q:Prop):Prop where
 get:Q
theorem Z {P Q:Prop} (k:Q) (h:Hd Q->P:=by
  intro q
  repeat first
    | ((with_reducible show Du (Dm _ _ _ _ _ (_::_) _ _ _ _ _)); (first | refine nx ?_ | refine Ly ?_ | refine Lx ?_))
    | ((with_reducible refine opk ?_); conv=>whnf
       first
      | ((with_reducible show Du _); refine nw ?_)
      | ((with_reducible show Fr _ _ _); refine Fr.mk _ rfl ?_)
      | ((with_reducible show Jg _ _); refine Mo ?_)
      | ((with_reducible show Iq _ _ _ _); refine Mr ?_)
      | ((with_reducible show Fc _ _ _); (first | refine Mp ?_ | refine Mq ?_)))
    | ((with_reducible show Du (Dm _ _ _ _ _ [] _ _ _ _ _)); refine K0 ?_)
    | ((with_reducible show Du (wc _ _ _ _ _ _ _ _ _)); refine nw ?_)
    | with_reducible refine Ay ?_
    | with_reducible refine Bp ?_
    | with_reducible refine Zk ?_
    | with_reducible refine Jn ?_
    | with_reducible refine Jo ?_
    | with_reducible refine Gf ?_
    | with_reducible refine Ael ?_
    | with_reducible refine Zm ?_
    | with_reducible refine Zl ?_
    | ((with_reducible refine cnd ?_); first | refine Gd rfl ?_ | refine Y6 rfl ?_)
    | ((with_reducible show Jj _ _ _); refine Jj.mk (by kernel_rfl) ?_)
    | ((with_reducible show wc _ _ (.cond _ _ _) _ _ _ _ _ _); first | refine Vk ?_ | refine Rz ?_)
    | refine nw ?_
    | refine nx ?_
    | refine K0 ?_
    | refine Ly ?_
    | refine Lx ?_
    | (conv=>whnf
       first
      | ((with_reducible show Du _); refine nw ?_)
      | ((with_reducible show Fr _ _ _); refine Fr.mk _ rfl ?_)
      | ((with_reducible show Jg _ _); refine Mo ?_)
      | ((with_reducible show Iq _ _ _ _); refine Mr ?_)
      | ((with_reducible show Fc _ _ _); (first | refine Mp ?_ | refine Mq ?_)))
  exact q.get):P:=h ⟨k⟩
theorem ZS {P Q:Prop} (k:Q) (h:Hd Q->P:=by
  intro q
  repeat first
    | ((with_reducible show Du (Dm _ _ _ _ _ (_::_) _ _ _ _ _)); (first | refine nx ?_ | refine Ly ?_ | refine Lx ?_))
    | ((with_reducible refine opk ?_); conv=>whnf
       first
      | ((with_reducible show Du _); refine nw ?_)
      | ((with_reducible show Fr _ _ _); refine Fr.mk _ rfl ?_)
      | ((with_reducible show Jg _ _); refine Mo ?_)
      | ((with_reducible show Iq _ _ _ _); refine Mr ?_)
      | ((with_reducible show Fc _ _ _); (first | refine Mp ?_ | refine Mq ?_)))
    | ((with_reducible show Du (Dm _ _ _ _ _ [] _ _ _ _ _)); refine K0 ?_)
    | ((with_reducible show Du (wc _ _ _ _ _ _ _ _ _)); refine nw ?_)
    | with_reducible refine Ay ?_
    | with_reducible refine Zk ?_
    | with_reducible refine Jn ?_
    | with_reducible refine Jo ?_
    | with_reducible refine Gf ?_
    | with_reducible refine Zm ?_
    | with_reducible refine Zl ?_
    | ((with_reducible refine cnd ?_); first | refine Gd rfl ?_ | refine Y6 rfl ?_)
    | ((with_reducible show Jj _ _ _); refine Jj.mk (by kernel_rfl) ?_)
    | ((with_reducible show wc _ _ (.cond _ _ _) _ _ _ _ _ _); first | refine Vk ?_ | refine Rz ?_)
    | refine nw ?_
    | refine nx ?_
    | refine K0 ?_
    | refine Ly ?_
    | refine Lx ?_
    | (conv=>whnf
       first
      | ((with_reducible show Du _); refine nw ?_)
      | ((with_reducible show Fr _ _ _); refine Fr.mk _ rfl ?_)
      | ((with_reducible show Jg _ _); refine Mo ?_)
      | ((with_reducible show Iq _ _ _ _); refine Mr ?_)
      | ((with_reducible show Fc _ _ _); (first | refine Mp ?_ | refine Mq ?_)))
  exact q.get):P:=h ⟨k⟩
theorem ZO {P Q:Prop} (k:Q) (h:Hd Q->P:=by
  intro q
  repeat first
    | ((with_reducible show Du (Dm _ _ _ _ _ (_::_) _ _ _ _ _)); (first | refine nx ?_ | refine Ly ?_ | refine Lx ?_))
    | ((with_reducible refine opk ?_); conv=>whnf
       first
      | ((with_reducible show Fr _ _ _); refine Fr.mk _ rfl ?_)
      | ((with_reducible show Jg _ _); refine Mo ?_)
      | ((with_reducible show Iq _ _ _ _); refine Mr ?_)
      | ((with_reducible show Fc _ _ _); (first | refine Mp ?_ | refine Mq ?_)))
    | ((with_reducible show Du (Dm _ _ _ _ _ [] _ _ _ _ _)); refine K0 ?_)
    | ((with_reducible show Jj _ _ _); refine Jj.mk (by kernel_rfl) ?_)
    | refine nx ?_
    | refine K0 ?_
    | refine Ly ?_
    | refine Lx ?_
    | (conv=>whnf
       first
      | ((with_reducible show Fr _ _ _); refine Fr.mk _ rfl ?_)
      | ((with_reducible show Jg _ _); refine Mo ?_)
      | ((with_reducible show Iq _ _ _ _); refine Mr ?_)
      | ((with_reducible show Fc _ _ _); (first | refine Mp ?_ | refine Mq ?_)))
  exact q.get):P:=h ⟨k⟩
theorem Y {P:Prop} (h:P:=by
  repeat' first
    | ((with_reducible show Du (Dm _ _ _ _ _ (_::_) _ _ _ _ _)); first | refine nx ?_ | refine Ly ?_ | refine Lx ?_ | refine Fs h (fun _ h=>?_) (fun _ h=>?_))
    | ((with_reducible refine opk ?_); conv=>whnf
       first
      | ((with_reducible show Du _); refine nw ?_)
      | ((with_reducible show Fr _ _ _); refine Fr.mk _ rfl ?_)
      | ((with_reducible show Jg _ _); refine Mo ?_)
      | ((with_reducible show Fv _ _ _ _ _ _); (first | refine Bo h (fun _ h=>?_) | refine Aey h (fun _ h=>?_)))
      | ((with_reducible show Rk _ _ _); refine Ce h (fun _ _ _ _ h=>?_))
      | ((with_reducible show Nb _ _ _ _ _); (first | refine Ju h (fun _ _ _ _ h=>?_) | refine Qq h (fun _ _ _ _ h=>?_)))
      | ((with_reducible show Iq _ _ _ _); refine Mr ?_)
      | ((with_reducible show Rm _ _ _ _); refine Aez ?_)
      | ((with_reducible show J9 _ _ _ _ _ _); (first | refine Ae0 h (fun _ h=>?_) | refine Oo h (fun _ h=>?_) | refine Ae1 h (fun _ h=>?_)))
      | ((with_reducible show Nd _ _ _); (first | refine Ae2 h (fun _ h=>?_) | refine Ae3 h (fun _ h=>?_)))
      | ((with_reducible show Rl _ _ _ _ _); refine Fx h (fun _ h=>?_))
      | ((with_reducible show Nc _ _ _ _); (first | refine Ae4 h (fun _ h=>?_) | refine Aaf h (fun _ h=>?_)))
      | ((with_reducible show Fc _ _ _); (first | refine Mp ?_ | refine Mq ?_))
      | ((with_reducible show Uv _ _ _); refine Jm h (fun _ h=>?_))
      | ((with_reducible show Uq _ _ _ _); refine Ry h (fun _ h=>?_))
      | ((with_reducible show Ur _ _ _); refine Vi h (fun _ h=>?_))
      | ((with_reducible show Ut _ _ _ _); refine Aei h (fun _ h=>?_))
      | ((with_reducible show Us _ _ _ _); refine Aej h (fun _ h=>?_))
      | ((with_reducible show Uu _ _ _ _); refine Zi h (fun _ _ _ _ h=>?_))
      | ((with_reducible show Uw _ _); refine Fe h (fun h=>?_))
      | ((with_reducible show Ux _ _ _ _ _); refine Aec h (fun _ h=>?_))
      | ((with_reducible show Uy _ _ _ _); refine Aed h (fun _ h=>?_)))
    | ((with_reducible show Du (Dm _ _ _ _ _ [] _ _ _ _ _)); refine K0 ?_)
    | ((with_reducible show Du (wc _ _ _ _ _ _ _ _ _)); refine nw ?_)
    | with_reducible refine Ay ?_
    | with_reducible refine Bp ?_
    | with_reducible refine Zk ?_
    | with_reducible refine Jn ?_
    | with_reducible refine Jo ?_
    | with_reducible refine Gf ?_
    | with_reducible refine Ael ?_
    | with_reducible refine Zm ?_
    | with_reducible refine Zl ?_
    | ((with_reducible refine cnd ?_); first | refine Gd rfl ?_ | refine Y6 rfl ?_)
    | ((with_reducible show wc _ _ (.cond _ _ _) _ _ _ _ _ _); first | refine Ap h (fun _ h=>?_) (fun _ h=>?_) | refine Vk ?_ | refine Rz ?_)
    | ((with_reducible show Jj _ _ _); refine Jj.mk (by kernel_rfl) ?_)
    | refine nx ?_
    | refine K0 ?_
    | refine Ly ?_
    | refine Lx ?_
    | refine Fs h (fun _ h=>?_) (fun _ h=>?_)
    | exact lpn h
    | exact jnn h
    | replace h:=C1 h
    | replace h:=lpj h
    | refine nw ?_
    | (conv=>whnf
       first
      | ((with_reducible show Du _); refine nw ?_)
      | ((with_reducible show Fr _ _ _); refine Fr.mk _ rfl ?_)
      | ((with_reducible show Jg _ _); refine Mo ?_)
      | ((with_reducible show Fv _ _ _ _ _ _); (first | refine Bo h (fun _ h=>?_) | refine Aey h (fun _ h=>?_)))
      | ((with_reducible show Rk _ _ _); refine Ce h (fun _ _ _ _ h=>?_))
      | ((with_reducible show Nb _ _ _ _ _); (first | refine Ju h (fun _ _ _ _ h=>?_) | refine Qq h (fun _ _ _ _ h=>?_)))
      | ((with_reducible show Iq _ _ _ _); refine Mr ?_)
      | ((with_reducible show Rm _ _ _ _); refine Aez ?_)
      | ((with_reducible show J9 _ _ _ _ _ _); (first | refine Ae0 h (fun _ h=>?_) | refine Oo h (fun _ h=>?_) | refine Ae1 h (fun _ h=>?_)))
      | ((with_reducible show Nd _ _ _); (first | refine Ae2 h (fun _ h=>?_) | refine Ae3 h (fun _ h=>?_)))
      | ((with_reducible show Rl _ _ _ _ _); refine Fx h (fun _ h=>?_))
      | ((with_reducible show Nc _ _ _ _); (first | refine Ae4 h (fun _ h=>?_) | refine Aaf h (fun _ h=>?_)))
      | ((with_reducible show Fc _ _ _); (first | refine Mp ?_ | refine Mq ?_))
      | ((with_reducible show Uv _ _ _); refine Jm h (fun _ h=>?_))
      | ((with_reducible show Uq _ _ _ _); refine Ry h (fun _ h=>?_))
      | ((with_reducible show Ur _ _ _); refine Vi h (fun _ h=>?_))
      | ((with_reducible show Ut _ _ _ _); refine Aei h (fun _ h=>?_))
      | ((with_reducible show Us _ _ _ _); refine Aej h (fun _ h=>?_))
      | ((with_reducible show Uu _ _ _ _); refine Zi h (fun _ _ _ _ h=>?_))
      | ((with_reducible show Uw _ _); refine Fe h (fun h=>?_))
      | ((with_reducible show Ux _ _ _ _ _); refine Aec h (fun _ h=>?_))
      | ((with_reducible show Uy _ _ _ _); refine Aed h (fun _ h=>?_)))
    | (have h:=Option.some.inj h; subst h; exact rfl)
    | (cases h; (repeat refine ⟨rfl,?_⟩); exact trivial)
    | (cases h; done)
):P:=h
end Go.Ab
namespace Go.Ab
open Go Go.Proofs
set_option maxRecDepth 10000
set_option linter.unusedVariables false
theorem Anq {a0 r:List Ds} (h:Bx 16 [] a0=some r):Ar Go.Proofs.Tryz.prog 180 [Aw 2 Gx a0] (Aw 2 Gx r):=by
 have h:((Bx 16 [] a0).bind fun o=>some o)=some r:=by rw [h]; rfl
 refine pw {T:=Ca,an:=(fun s=>bif Nat.beq s 5 then .own else .ask),nl:=(fun s=>bif Nat.beq s 2 then [(0,2)] else [])} Tryz.func180 ?_
 refine Ay ?_
 refine Bp ?_
 refine ZO ?_
 refine Ay (Ay ?_)
 refine Zn (fun b:Bool=>b=true->a0 = []) (fun b=>[(4,Am b)]) (fun _=>[]) (fun _=>rfl) ?_ ?_
 .intro K hK
  refine Anb 0 ?_
  intro v hv
  obtain ⟨p,c,rfl,hp⟩:=hv 2 (a0.map Gx) rfl
  refine Bp ?_
  refine nx ?_
  refine nx ?_
  refine K0 ?_
  refine hK p.isNone _ _ _ (fun e=>?_) ⟨rfl,trivial⟩ trivial
  cases p with
  | none=>simpa using hp rfl
  | some _=>cases e
 .rintro b _ hb
  cases b with
  | true=>
   have hb:=hb rfl
   subst hb
   have h:some ([]:List Ds)=some r:=by rw [<-h]; rfl
   exact Y
  | false=>
   refine Z ?_
   exact Y
end Go.Ab
