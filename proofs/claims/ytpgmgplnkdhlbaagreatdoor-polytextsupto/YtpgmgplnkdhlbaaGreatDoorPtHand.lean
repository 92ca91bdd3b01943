/- Contracts of strings.Builder and strconv.Itoa. -/
import Derived.Test.YtpgmgplnkdhlbaaGreatDoorPtTy
import Derived.Test.YtpgmgplnkdhlbaaGreatDoorPtHandB
import Derived.Shelf.Strconv.Itoa4
import Derived.KernelRfl
import Derived.Shelf.Sort.Plain
import Derived.Shelf.Spec.SlicesGrow
import Derived.Shelf.Strings.OnBuilder
import Derived.Shelf.Strings.Repeat
import Derived.Lib.AppendIntMem
namespace Go.Ab
open Go Go.Proofs Go.Shelf
set_option maxRecDepth 100000
def Ahg:Ren:={f:=fun x=>match x with | 171=>43 | 243=>85 | 246=>142 | 283=>210 | 284=>211 | 285=>212 | 286=>213 | 129=>256 | 317=>255 | 318=>257 | 319=>258 | 320=>259 | 337=>312 | 338=>313 | 173=>84 | n=>n,t:=fun x=>match x with | 3=>3 | 9=>9 | 2=>2 | 4=>4 | 171=>255 | 0=>0 | 53=>118 | 37=>40 | 5=>5 | 173=>258 | 212=>303 | 51=>119 | 20=>20 | 213=>304 | 46=>266 | 232=>373 | 233=>374 | n=>n,g:=fun x=>match x with | 17=>0 | 18=>2 | 19=>3 | n=>n}
theorem T7:LaysM.n171 Go.Proofs.Tryz.prog Ahg:=by
 constructor
 constructor
 all_goals first | kernel_rfl | (intro w; kernel_rfl)
theorem St.grown {σ:Aw} {F:Aw} {W w:World} (s:St σ ι0 H0 F W w) (k:Nat) (os:Array Obj):St σ ι0 H0 F W (Sort.grow (w.drewN k) os):=by
 have hk:∀(b:Nat) (o:Obj),w.heap[b]? = some o->(Sort.grow (w.drewN k) os).heap[b]? = some o:=by
  intro b o h
  have c:=(Array.getElem?_eq_some_iff.1 h).1
  show (w.heap++os)[b]? = _
  rw [Array.getElem?_append_left c]; exact h
 exact ⟨fun b o h=>hk b o (s.sto b o h),fun b o h=>⟨hk b o (s.fra b o h).1,(s.fra b o h).2⟩,fun _=>rfl,(fun _ _ _ f=>by cases f),s.os,s.tape,s.output,s.glo,trivial⟩
theorem Acb {σ:Aw} {ι:Bi} {H:Hp} {F:Aw} {W w:World} (s:St σ ι H F W w):Lib.TabIs Go.Proofs.Tryz.prog w "internal/strconv.uint64pow10" .u64 Lib.pow10Tab:=by
 obtain ⟨E,fr,e⟩:=s.glo
 have h:=s.sto _ _ e
 have g:Go.Proofs.Tryz.prog.globalNamed "internal/strconv.uint64pow10" = some 0:=T7.m17
 unfold Lib.TabIs World.var?
 rw [g]
 simp only [Option.bind_some,h]
theorem T8 {σ:Aw} {ι:Bi} {H:Hp} {x:AV} {vs:Array Value} (h:Ju σ ι H [x] vs):∃v,vs = #[v]/\Conc σ ι H x v:=by
 obtain ⟨h1,h2⟩:=h
 have h1:vs.size=1:=h1
 refine ⟨vs[0],?_,h2 0 x _ rfl (by simp [h1])⟩
 apply Array.ext
 .simp [h1]
 .intro i hi b
  have:i=0:=by omega
  subst this; rfl
theorem Aq1 {a0:Int} {r:ByteArray} (h:Lb a0=some r):Aq Go.Proofs.Tryz.prog 43 [O .i64 a0] (Bk r):=by
 unfold Lb at h
 split at h
 .rename_i hc
  cases h
  refine ⟨⟨_,Tryz.func43,by kernel_rfl,by kernel_rfl⟩,fun σ F W w vs s b=>?_⟩
  obtain ⟨v,rfl,c⟩:=T8 b
  have c:=c.val_inv
  subst c
  have:=Any.strconv_Itoa T7 a0 hc.1 hc.2 w (Acb s)
  refine this.mono ?_
  rintro e w' ⟨rfl,k,os,rfl⟩
  exact ⟨_,σ,rfl,Aw.le_refl σ,s.grown k os,.of_val _⟩
 .cases h
theorem Aq2:LaysM.n173 Go.Proofs.Tryz.prog Ahg:=by
 constructor
 constructor
 all_goals first | kernel_rfl | (intro w; kernel_rfl)
theorem T9 {σ:Aw} {ι:Bi} {H:Hp} {x y:AV} {vs:Array Value} (h:Ju σ ι H [x,y] vs):∃v u,vs = #[v,u]/\Conc σ ι H x v/\Conc σ ι H y u:=by
 obtain ⟨h1,h2⟩:=h
 have h1:vs.size=2:=h1
 refine ⟨vs[0],vs[1],?_,h2 0 x _ rfl (by simp [h1]),h2 1 y _ rfl (by simp [h1])⟩
 apply Array.ext
 .simp [h1]
 .intro i hi b
  rcases (by omega:i=0\/i=1) with h | h
  .subst h; rfl
  .subst h; rfl
theorem Aq3 {a0 a1:Int} {r:ByteArray} (h:Wc a0 a1=some r):Aq Go.Proofs.Tryz.prog 84 [O .i64 a0,O .i64 a1] (Bk r):=by
 unfold Wc at h
 cases hb:a1==10 with
 | false=>rw [hb] at h; cases h
 | true=>
  rw [hb] at h
  have hb:=eq_of_beq hb
  subst hb
  have h:Lb a0=some r:=h
  unfold Lb at h
  split at h
  .rename_i hc
   cases h
   refine ⟨⟨_,Tryz.func84,by kernel_rfl,by kernel_rfl⟩,fun σ F W w vs s b=>?_⟩
   obtain ⟨v,u,rfl,c,hu⟩:=T9 b
   have c:=c.val_inv
   have hu:=hu.val_inv
   subst c; subst hu
   have:=Any.strconv_FormatInt_10 Aq2 a0 hc.1 hc.2 w (Acb s)
   refine this.mono ?_
   rintro e w' ⟨rfl,k,os,rfl⟩
   exact ⟨_,σ,rfl,Aw.le_refl σ,s.grown k os,.of_val _⟩
  .cases h
theorem Xm (o:Bc) (os:List Bc):hp (o::os) 0=o:=rfl
theorem Aq4 (x:AV) (rest:List Bc):Bq Go.Proofs.Tryz.prog 38 [.loc 0 0] (.cells 42 [.loc 0 0,x]::rest) (.tup []) (.cells 42 [.loc 0 0,x]::rest):=by
 refine ⟨⟨_,Tryz.func38,by kernel_rfl,by kernel_rfl⟩,fun σ F W w ι vs s f=>?_⟩
 obtain ⟨v,rfl,k⟩:=T8 f
 obtain ⟨b,hb,k⟩:=k.loc_inv
 subst k
 have l:=s.obj 0
 unfold Ca at l
 rw [Xm] at l
 obtain ⟨z,C,u,_,_,h3,h4,y⟩:=l
 rw [hb] at u; cases u
 have h4:C.size=2:=h4
 have g:C[0]? = some C[0]:=by simp [h4]
 have q:=y 0 (.loc 0 0) C[0] rfl g
 obtain ⟨b2,h,j⟩:=q.loc_inv
 rw [hb] at h; cases h
 have cell:w.cell? ⟨b,0,none⟩=some (.pointer (some ⟨b,0,none⟩)):=by
  rw [Hi h3,g,j]
 refine (Tryz.check_used b w cell).mono ?_
 rintro e w' ⟨rfl,rfl⟩
 exact ⟨_,σ,ι,rfl,Le.refl _ _ _,s,.tup _ _ rfl (fun i c v h1 _=>by cases h1)⟩
theorem Aq5 (x:AV) (rest:List Bc):Bq Go.Proofs.Tryz.prog 38 [.loc 0 0] (.cells 42 [.val (.pointer none),x]::rest) (.tup []) (.cells 42 [.loc 0 0,x]::rest):=by
 refine ⟨⟨_,Tryz.func38,by kernel_rfl,by kernel_rfl⟩,fun σ F W w ι vs s h=>?_⟩
 obtain ⟨v,rfl,l⟩:=T8 h
 obtain ⟨b,hb,l⟩:=l.loc_inv
 subst l
 have q:=s.obj 0
 unfold Ca at q
 rw [Xm] at q
 obtain ⟨D,C,z,_,_,h3,h4,y⟩:=q
 rw [hb] at z; cases z
 have h4:C.size=2:=h4
 have j:C[0]? = some C[0]:=by simp [h4]
 have k:=(y 0 (.val (.pointer none)) C[0] rfl j).val_inv
 have cell:w.cell? ⟨b,0,none⟩=some (.pointer none):=by
  rw [Hi h3,j,k]
 refine (Tryz.check_fresh b w cell (by simp [World.shape?,h3,h4]) (by simp [World.frozen?,h3])).mono ?_
 rintro e w' ⟨rfl,rfl⟩
 obtain ⟨s',le⟩:=s.setBox 0 42 [.val (.pointer none),x] [.loc 0 0,x] rfl b hb #[.pointer (some ⟨b,0,none⟩),C[1]] rfl (by
  intro i c v h1 h2
  match i with
  | 0=>simp at h1 h2; subst h1; subst h2; exact .loc 0 0 b hb
  | 1=>simp at h1 h2; subst h1; subst h2; exact y 1 x _ rfl (by simp [h4])
  | i+2=>simp at h1)
 have B:A3 (hp (.cells 42 [.val (.pointer none),x]::rest)) 0 (.cells 42 [.loc 0 0,x])=hp (.cells 42 [.loc 0 0,x]::rest):=by
  funext i
  cases i with
  | zero=>rfl
  | succ i=>rfl
 have A:w.setCell ⟨b,0,none⟩ (.pointer (some ⟨b,0,none⟩))=w.setRow b #[.pointer (some ⟨b,0,none⟩),C[1]]:=by
  have g:C.setIfInBounds 0 (.pointer (some ⟨b,0,none⟩)) = #[.pointer (some ⟨b,0,none⟩),C[1]]:=by
   apply Array.ext
   .simp [h4]
   .intro i hi u
    match i with
    | 0=>simp
    | 1=>rw [Array.getElem_setIfInBounds_ne _ (by decide)]; rfl
    | i+2=>simp at u; omega
  have f:(w.setCell ⟨b,0,none⟩ (.pointer (some ⟨b,0,none⟩))).heap=(w.setRow b #[.pointer (some ⟨b,0,none⟩),C[1]]).heap:=by
   apply Array.ext_getElem?
   intro i
   simp only [World.setCell,World.setRow,Array.getElem?_modify]
   split
   .rename_i e; subst e
    rw [h3]; simp [g]
   .rfl
  unfold World.setCell World.setRow at f ⊢
  simp only at f
  rw [f]
 rw [B] at s' le
 rw [A]
 exact ⟨_,σ,ι,rfl,le,s',.tup _ _ rfl (fun i c v h1 _=>by cases h1)⟩
theorem Aq6 {l:List Int} (h:∀x∈l,0<=x/\x<256) {j:Nat} {x:UInt8} (hx:(Ct l)[j]? = some x):l[j]? = some (x.toNat:Int):=by
 simp only [Ct,List.getElem?_map,Option.map_eq_some_iff] at hx
 obtain ⟨y,hy,rfl⟩:=hx
 have b:=h y (List.mem_of_getElem? hy)
 rw [hy]
 congr 1
 have:y.toNat<256:=by omega
 simp only [UInt8.toNat_ofNat']
 omega
theorem St.kill {σ:Aw} {ι:Bi} {H:Hp} {F:Aw} {W w:World} (s:St σ ι H F W w) (h:Nat):St σ ι (A3 H h .dead) F W w/\Le σ ι H σ ι (A3 H h .dead):=by
 have le:Le σ ι H σ ι (A3 H h .dead):=by
  have:=Le.upd (ι:=ι) (H:=H) (Aw.le_refl σ) h (ι h) .dead ⟨fun _ e=>e,(fun _ e=>by cases e),(fun _ k j i e=>by cases e)⟩
  rwa [Gl] at this
 obtain ⟨f1,f2⟩:=s.fresh
 refine ⟨s.touch h w.heap.size (fun _ _=>rfl) (fun x e=>Cp _ _ e) le (fun _ _=>rfl) (fun _ _=>rfl) (fun o g=>by rw [f1] at g; cases g) ?_ f2 ?_ ?_ rfl rfl rfl,le⟩
 .intro x _ c f
  have:=(s.block c f).1
  omega
 .intro b c
  rw [B5] at c; cases c
 .unfold Ca
  rw [B5]; trivial
theorem St.fbox {σ:Aw} {ι:Bi} {H:Hp} {F:Aw} {W w:World} (s0:St σ ι H F W w) {T:TypeId} {p x:AV} {s:ByteArray} {b:Nat} {C:Array Value} (f:H 0 = .cells T [p,x]) (hb:ι 0 = .box b) (h3:w.heap[b]? = some (.cells C T (0,0)))
  (hc:∀v,C[1]? = some v->CC σ (.fb s) v):St σ ι (A3 H 0 (.cells T [p,.fb s])) F W w/\Le σ ι H σ ι (A3 H 0 (.cells T [p,.fb s])):=by
 have g:=s0.obj 0
 unfold Ca at g
 rw [f] at g
 obtain ⟨u,z,k,g1,g2,g3,g4,g5⟩:=g
 rw [hb] at k; cases k
 rw [h3] at g3; cases g3
 have le:Le σ ι H σ ι (A3 H 0 (.cells T [p,.fb s])):=by
  have:=Le.upd (ι:=ι) (H:=H) (Aw.le_refl σ) 0 (ι 0) (.cells T [p,.fb s]) (by rw [f]; exact ⟨fun _ e=>e,(fun _ e=>by cases e),(fun _ _ _ _ e=>by cases e)⟩)
  rwa [Gl] at this
 refine ⟨s0.touch 0 b (fun _ _=>rfl) (fun x e=>Cp _ _ e) le (fun x e=>rfl) (fun _ _=>rfl) (fun o e=>by rw [g1] at e; cases e) ?_ g2 ?_ ?_ rfl rfl rfl,le⟩
 .intro x e l h
  exact e (s0.inj x 0 b l (by rw [f]; rfl) h (by rw [hb]; rfl))
 .intro q _ j
  exact .inr ⟨by rw [f]; rfl,j⟩
 .unfold Ca
  rw [B5]
  refine ⟨b,C,hb,g1,g2,h3,by simpa using g4,fun i c v x y=>?_⟩
  match i with
  | 0=>exact (g5 0 c v x y).mono le
  | 1=>cases x; exact .cc (hc v y)
  | i+2=>cases x
theorem Aq7 {p:AV}:Bq Go.Proofs.Tryz.prog 14 [.loc 0 0] [.cells 42 [p,.arr 1 0 0 0],.rows 5 1 []] (Bk .empty) [.cells 42 [p,.fb .empty],.dead]:=by
 refine ⟨⟨_,Tryz.func14,by kernel_rfl,by kernel_rfl⟩,fun σ F W w ι vs s z=>?_⟩
 obtain ⟨v,rfl,j⟩:=T8 z
 obtain ⟨b,hb,j⟩:=j.loc_inv
 subst j
 have L:=s.obj 0
 unfold Ca at L
 rw [Xm] at L
 obtain ⟨b',C,X,_,_,h3,h4,h5⟩:=L
 rw [hb] at X; cases X
 have h4:C.size=2:=h4
 have hC:C = #[C[0],C[1]]:=by
  apply Array.ext
  .simp [h4]
  .intro i hi M
   match i with
   | 0=>rfl
   | 1=>rfl
   | i+2=>simp at M; omega
 have N:=h5 1 (.arr 1 0 0 0) C[1] rfl (by simp [h4])
 have y:hp [Bc.cells 42 [p,.arr 1 0 0 0],.rows 5 1 []] 1 = .rows 5 1 []:=rfl
 have c:=N.arr_inv y (by simp)
 have hor:=s.obj 1
 unfold Ca at hor
 rw [y] at hor
 obtain ⟨_,U,hor⟩:=hor
 have eH:A3 (A3 (hp [Bc.cells 42 [p,.arr 1 0 0 0],.rows 5 1 []]) 1 .dead) 0 (.cells 42 [p,.fb .empty])=hp [Bc.cells 42 [p,.fb .empty],.dead]:=by
  funext i
  match i with
  | 0=>rfl
  | 1=>rfl
  | i+2=>rfl
 have go:∀(a q:Option Addr) (cap:Nat) (A:Aw) (k:World),C[1] = .slice a 0 cap->k.heap[b]? = w.heap[b]?->(Builtin.unsafeSliceData_ #[40] 107 #[.slice a 0 cap]).run Go.Proofs.Tryz.prog w.drew = .ok (.pointer q) k ->
   Le σ ι (hp [Bc.cells 42 [p,.arr 1 0 0 0],.rows 5 1 []]) A ι (hp [Bc.cells 42 [p,.arr 1 0 0 0],.rows 5 1 []])->St A ι (hp [Bc.cells 42 [p,.arr 1 0 0 0],.rows 5 1 []]) F W k ->
   Calls Go.Proofs.Tryz.prog 14 #[.pointer (some ⟨b,0,none⟩)] w fun e w'=>∃v B E,e = .returned v/\Le σ ι (hp [Bc.cells 42 [p,.arr 1 0 0 0],.rows 5 1 []]) B E (hp [Bc.cells 42 [p,.fb .empty],.dead])/\St B E (hp [Bc.cells 42 [p,.fb .empty],.dead]) F W w'/\Conc B E (hp [Bc.cells 42 [p,.fb .empty],.dead]) (Bk .empty) v:=by
  intro a q cap A k f x R le G
  have h:w.heap[b]? = some (.cells #[C[0],.slice a 0 cap] 42 (0,0)):=by
   rw [h3]; congr 1; rw [<-f,<-hC]
  refine (Tryz.builder_str0 b cap C[0] a q w k h (x.trans h) R).mono ?_
  rintro e w' ⟨rfl,rfl⟩
  obtain ⟨Y,I⟩:=G.kill 1
  obtain ⟨S,u⟩:=Y.fbox (b:=b) (C:=#[C[0],.slice a 0 cap]) (s:=.empty) (by rfl) hb ((x.trans h)) (fun v j=>by simp at j; subst j; exact .fbn _ _ _ rfl)
  rw [eH] at S u
  exact ⟨_,A,ι,rfl,(le.trans I).trans u,S,.of_val _⟩
 rcases hor with ⟨hi,_⟩ | ⟨g,l,D,Z,g1,g2,g3,g4,g5,g6⟩
 .unfold E5 at c
  rw [hi] at c
  exact go none none 0 σ w.drew c.1 rfl rfl (Le.refl _ _ _) (s.drew _)
 .unfold E5 at c
  rw [Z] at c
  simp only [Nat.zero_mul,Nat.zero_add,Nat.sub_zero] at c
  obtain ⟨_,f⟩:=c
  by_cases ht:l=0
  .subst ht
   obtain ⟨G,J⟩:=(s.drew (w.drawn+1)).newFrozen (.view ⟨g,0,none⟩ 5)
   have V:=(Array.getElem?_eq_some_iff.1 h3).1
   refine go _ _ 0 _ (w.drew.alloc (.view ⟨g,0,none⟩ 5)) f ?_ (Lib.run_unsafeSliceData_zero _ _ _ 5 Go.Proofs.Tryz.underlying107 _ _ (5,D.size) (by
    have:w.drew.heap[g]? = some (.cells D 5 (0,0)):=g3
    simp [World.shape?,this])) J G
   show (w.heap.push _)[b]? = _
   rw [Array.getElem?_push,if_neg (by omega)]
  .exact go _ _ l σ w.drew f rfl (Lib.run_unsafeSliceData_row _ _ _ _ _ _ ht) (Le.refl _ _ _) (s.drew _)
theorem Ahh {p:AV} {l:List Int} {r:ByteArray} (h:F3 l=some r):Bq Go.Proofs.Tryz.prog 14 [.loc 0 0] [.cells 42 [p,.arr 1 l.length 0 l.length],.rows 5 1 (List.map (O .u8) l)] (Bk r) [.cells 42 [p,.fb r],.dead]:=by
 unfold F3 at h
 split at h
 .rename_i a8
  cases h
  by_cases u:l = []
  .subst u; exact Aq7
  refine ⟨⟨_,Tryz.func14,by kernel_rfl,by kernel_rfl⟩,fun σ F W w ι vs s S=>?_⟩
  obtain ⟨v,rfl,A⟩:=T8 S
  obtain ⟨b,hb,A⟩:=A.loc_inv
  subst A
  have B:=s.obj 0
  unfold Ca at B
  rw [Xm] at B
  obtain ⟨b',C,e1,_,_,h3,h4,h5⟩:=B
  rw [hb] at e1; cases e1
  have h4:C.size=2:=h4
  have hC:C = #[C[0],C[1]]:=by
   apply Array.ext
   .simp [h4]
   .intro i hi a6
    match i with
    | 0=>rfl
    | 1=>rfl
    | i+2=>simp at a6; omega
  have a7:=h5 1 (.arr 1 l.length 0 l.length) C[1] rfl (by simp [h4])
  have N:hp [Bc.cells 42 [p,.arr 1 l.length 0 l.length],.rows 5 1 (List.map (O .u8) l)] 1 = .rows 5 1 (List.map (O .u8) l):=rfl
  have y:=a7.arr_inv N (by simp)
  have hor:=s.obj 1
  unfold Ca at hor
  rw [N] at hor
  obtain ⟨_,M,hor⟩:=hor
  rw [List.length_map] at M
  rcases hor with ⟨_,J⟩ | ⟨g,q,D,hg,g1,g2,g3,g4,g5,g6⟩
  .exact (u (by simpa using J)).elim
  .rw [List.length_map] at g5
   unfold E5 at y
   rw [hg] at y
   simp only [Nat.zero_mul,Nat.zero_add,Nat.sub_zero] at y
   obtain ⟨ht,I⟩:=y
   have c:(Ct l).length=l.length:=by simp [Ct]
   have f:∀(j:Nat) (x:UInt8),(Ct l)[j]? = some x->D[j]? = some (Value.int .u8 x.toNat):=by
    intro j x hx
    have hj:=Aq6 a8 hx
    obtain ⟨gg,q1,q2,q3⟩:=g6
    have G:(List.map (O .u8) l)[j]? = some (O .u8 x.toNat):=by rw [List.getElem?_map,hj]; rfl
    have Z:j<(List.map (O .u8) l).length:=(List.getElem?_eq_some_iff.1 G).1
    have q4:=q3 j 0 Z (by omega)
    have q5:=(q2 j _ 0 _ G rfl).1
    have:gg j 0=Value.int .u8 x.toNat:=by
     generalize gg j 0=z at q5
     cases q5; rfl
    rw [this] at q4
    simpa using q4
   have U:w.heap[b]? = some (.cells #[C[0],.slice (some ⟨g,0,none⟩) (Ct l).length q] 42 (0,0)):=by
    rw [h3]; congr 1; rw [c]
    have:C[1] = .slice (some ⟨g,0,none⟩) l.length q:=I
    rw [<-this,<-hC]
   have V:l.length<=D.size:=by rw [g4]; omega
   have call:=Tryz.builder_str b g q C[0] D (Ct l) w (by intro e; apply u; rw [<-List.length_eq_zero_iff,<-c,e]; rfl) U g3 (by rw [c]; exact g5) (by rw [c]; exact V) (by rw [c]; omega) f
   refine call.mono ?_
   rintro e w' ⟨rfl,rfl⟩
   have L:(Ct l).length≠0:=by rw [c]; simpa using u
   have a1:σ.le (A3 σ g (some (.cells D 5 (0,(Ct l).length)))):=by
    intro b' o' hb'
    rw [Cp _ _ (by intro e; subst e; rw [g1] at hb'; cases hb')]; exact hb'
   have Y:(w.drew.freeze ⟨g,0,none⟩ (Ct l).length).heap[g]? = some (.cells D 5 (0,(Ct l).length)):=by
    unfold World.freeze
    rw [if_neg L]
    simp only [Array.getElem?_modify,if_true]
    have:w.drew.heap[g]? = some (.cells D 5 (0,0)):=g3
    rw [this]
    simp
   have R:∀b,b≠g->(w.drew.freeze ⟨g,0,none⟩ (Ct l).length).heap[b]? = w.heap[b]?:=by
    intro b hb
    unfold World.freeze
    split
    .rfl
    .simp only [Array.getElem?_modify]
     rw [if_neg (Ne.symm hb)]; rfl
   have le:Le σ ι (hp [Bc.cells 42 [p,.arr 1 l.length 0 l.length],.rows 5 1 (List.map (O .u8) l)]) (A3 σ g (some (.cells D 5 (0,(Ct l).length)))) ι (A3 (hp [Bc.cells 42 [p,.arr 1 l.length 0 l.length],.rows 5 1 (List.map (O .u8) l)]) 1 .dead):=by
    have:=Le.upd (ι:=ι) (H:=hp [Bc.cells 42 [p,.arr 1 l.length 0 l.length],.rows 5 1 (List.map (O .u8) l)]) a1 1 (ι 1) .dead ⟨fun _ e=>e,(fun _ e=>by cases e),(fun _ E1 ad ac e=>by cases e)⟩
    rwa [Gl] at this
   have eH:A3 (A3 (hp [Bc.cells 42 [p,.arr 1 l.length 0 l.length],.rows 5 1 (List.map (O .u8) l)]) 1 .dead) 0 (.cells 42 [p,.fb ⟨(Ct l).toArray⟩])=hp [Bc.cells 42 [p,.fb ⟨(Ct l).toArray⟩],.dead]:=by
    funext i
    match i with
    | 0=>rfl
    | 1=>rfl
    | i+2=>rfl
   have ab:b≠g:=by
    intro e
    have:=s.inj 0 1 g rfl rfl (by rw [hb,e]; rfl) (by rw [hg]; rfl)
    cases this
   have s2:St (A3 σ g (some (.cells D 5 (0,(Ct l).length)))) ι (A3 (hp [Bc.cells 42 [p,.arr 1 l.length 0 l.length],.rows 5 1 (List.map (O .u8) l)]) 1 .dead) F W (w.drew.freeze ⟨g,0,none⟩ (Ct l).length):=by
    refine s.touch (hdrw:=by unfold World.freeze; split <;> exact Nat.le_succ _) 1 g (fun _ _=>rfl) (fun x e=>Cp _ _ e) le R (fun x e=>Cp _ _ e) (fun o B=>by rw [B5] at B; cases B; exact Y) ?_ g2 ?_ ?_ ?_ ?_ ?_
    .intro x hx X aa
     exact hx (s.inj x 1 g X rfl aa (by rw [hg]; rfl))
    .intro b0 X
     rw [B5] at X; cases X
    .unfold Ca
     rw [B5]; trivial
    .unfold World.freeze; split <;> rfl
    .unfold World.freeze; split <;> rfl
    .unfold World.freeze; split <;> rfl
   obtain ⟨s3,E⟩:=s2.fbox (b:=b) (C:=#[C[0],.slice (some ⟨g,0,none⟩) (Ct l).length q]) (s:=⟨(Ct l).toArray⟩) (by rfl) hb ((R b ab).trans U) (fun v A=>by
    simp only [List.getElem?_toArray,List.getElem?_cons_succ,List.getElem?_cons_zero,Option.some.injEq] at A
    subst A
    have k:(ByteArray.mk (Ct l).toArray).size=(Ct l).length:=by simp [ByteArray.size]
    rw [<-k]
    refine .fb _ g q D (by rw [B5,k]) (by rw [k]; exact L) (by rw [k,c]; omega) (by rw [k,c]; exact V) (by rw [k,c]; omega) (fun j x hx=>f j x (by simpa using hx)))
   rw [eH] at s3 E
   exact ⟨_,_,ι,rfl,le.trans E,s3,.of_val _⟩
 .cases h
end Go.Ab
namespace Go.Ab
open Go Go.Proofs
set_option linter.unusedVariables false
class OK {α:Type} (o:Option α) (G:outParam (α->Prop)):Prop where
 ok:∀{r:α},o=some r->G r
theorem okz {α:Type} {G:α->Prop}:OK (none:Option α) G:=⟨fun h=>by cases h⟩
section
variable {P:Program} {C:Cfg} {Qn:Nat->Bf->Hp->Prop} {Qe:Nat->Nat->Bf->Hp->Prop} {Qr:Nat->Bf->Hp->Prop} {n:Nat} {e:Bf} {H:Hp} {β:Type} {r:β}
variable {T:Cg} {an:Nat->Ann} {nl:Nat->List (Nat×Nat)} {ops:Array Oper} {o:Oper} {os:List Oper} {acc:Gp} {K:Nat->Bf->Hp->Gp->Prop}
theorem Er {p:Nat×Bool} {s:Nat} {b:Bool} {m m':Option β} (h:(bif b then m else m')=some r) (h1:b=true->m=some r->D3 (Dv P T an nl ops (o::os) n (A3 e s (.val (.bool true))) H acc K))
  (h2:b=false->m'=some r->D3 (Dv P T an nl ops (o::os) n (A3 e s (.val (.bool false))) H acc K)) (hg:o.guard=some p:=by exact rfl) (hs:(ops[p.1]?).bind (·.dst)=some s:=by exact rfl) (hb:e s = .val (.bool b):=by exact rfl):D3 (Dv P T an nl ops (o::os) n e H acc K):=Aqi h h1 h2 hb
theorem nw {c:Code} (k:wc P C c Qn Qe Qr n e H):D3 (wc P C c Qn Qe Qr n e H):=.mk k
theorem B9 {S E:Type} {o:S⊕E} {J:E->Option β} {x:E} (h:some (Sum.inr x)=some o) (hx:∀x,Sum.inr x=o->J x=some r:=by assumption):J x=some r:=hx x (Option.some.inj h)
theorem lpj {S:Type} {o:S} {J:S->Option β} {x:S} (h:some x=some o) (hx:∀y,y=o->J y=some r:=by assumption):J x=some r:=hx x (Option.some.inj h)
theorem lpn {S E:Type} {o:S⊕E} {s':S} {K:Nat->Bf->Hp->Prop} {iv:S->List (Nat×AV)} {hv:S->List (Nat×Bc)} {inv:S->Prop} {n0:Nat} {H0:Hp} (h:some (Sum.inl s')=some o) (hn:∀s' n' e' H',Sum.inl s'=o->Fr e' (iv s')->Fs H' (B6 H0 (hv s')) n0 n0->inv s'->K n' e' H':=by assumption)
  (hs:Fr e (iv s'):=by (repeat refine ⟨rfl,?_⟩); exact trivial) (hh:Fs H (B6 H0 (hv s')) n0 n0:=by (repeat refine ⟨⟨rfl,rfl⟩,?_⟩); exact trivial) (hi:inv s':=by first | trivial | exact rfl | ((repeat refine Gq ?_ _ _); first | exact rfl | assumption)):K n e H:=hn s' n e H (Option.some.inj h) hs hh hi
theorem jnn {S E:Type} {o x:E} {s:S} {J:S->Prop} {K:Nat->Bf->Hp->Prop} {iv:S->List (Nat×AV)} {hv:S->List (Nat×Bc)} {n0:Nat} {H0:Hp} (h:some x=some o) (hn:∀s n' e' H',J s->Fr e' (iv s)->Fs H' (B6 H0 (hv s)) n0 n0->K n' e' H':=by assumption) (hJ:J s:=by exact Option.some.inj h)
  (hs:Fr e (iv s):=by (repeat refine ⟨rfl,?_⟩); exact trivial) (hh:Fs H (B6 H0 (hv s)) n0 n0:=by (repeat refine ⟨⟨rfl,rfl⟩,?_⟩); exact trivial):K n e H:=hn s n e H hJ hs hh
theorem A7 {α:Type} {o:Option α} {m:α->Option β} {f:FuncId} {args:List AV} {G:α->Prop} {ra:α->AV} {K:Eff->Nat->Prop} (h:o.bind m=some r) [i:OK o G] (k:∀v,m v=some r->K ⟨ra v,[],[]⟩ n) (hG:∀v,G v->Aq P f args (ra v):=by exact fun _ h=>h) (hf:args.all AV.free=true:=by exact rfl):Fc P n H f args K :=
 C5 h fun v hv h=>Fc.mk _ (hG v (i.ok hv)) hf (k v h)
theorem Ahi {α:Type} {o:Option α} {m:α->Option β} {f:FuncId} {args args':List AV} {G:α->Prop} {ra:α->AV} {K:Eff->Nat->Prop} (h:o.bind m=some r) [i:OK o G] (k:∀v,m v=some r->K ⟨ra v,[],[]⟩ n) (hG:∀v,G v->Aq P f args' (ra v):=by exact fun _ h=>h) (hs:Mc args args':=by (repeat first | refine ⟨Sub.refl _,?_⟩ | refine ⟨Sub.nil _,?_⟩); exact trivial) (hf:args.all AV.free=true:=by exact rfl):Fc P n H f args K :=
 C5 h fun v hv h=>Fc.mk _ (Aq.sub (hG v (i.ok hv)) hs (Sub.refl _)) hf (k v h)
theorem A1 {α:Type} {o:Option α} {m:α->Option β} {f:FuncId} {args largs:List AV} {G:α->Prop} {ra:α->AV} {hs:List Bc} {hs':α->List Bc} {K:Eff->Nat->Prop} (l:List Nat) (h:o.bind m=some r) [i:OK o G] (k:∀v,m v=some r->K ⟨ren (Cw n l) (ra v),wrs (Cw n l) 0 hs++Bs (Cw n l) l.length ((hs' v).length-l.length),wrs (Cw n l) 0 (hs' v)⟩ (n+((hs' v).length-l.length)))
  (hG:∀v,G v->Bq P f largs hs (ra v) (hs' v):=by exact fun _ h=>h) (ha:largs.map (ren (Cw n l))=args:=by exact rfl) (ok:∀v,Kq n l largs hs (ra v) (hs' v)=true:=by exact fun _=>rfl) (hh:K9 H (wrs (Cw n l) 0 hs):=by (repeat refine ⟨rfl,?_⟩); exact trivial):Fc P n H f args K :=
 C5 h fun v hv h=>Fc.act l largs hs (ra v) (hs' v) (hG v (i.ok hv)) ha (ok v) hh (k v h)
theorem Aq8 {α:Type} {o:Option α} {m:α->Option β} {f:FuncId} {args largs:List AV} {G:α->Prop} {ra:α->AV} {hs:List Bc} {K:Eff->Nat->Prop} (l:List Nat) (h:o.bind m=some r) [i:OK o G] (k:∀v,m v=some r->K ⟨ren (Cw n l) (ra v),wrs (Cw n l) 0 hs,[]⟩ n)
  (hG:∀v,G v->Bq P f largs hs (ra v) hs:=by exact fun _ h=>h) (ha:largs.map (ren (Cw n l))=args:=by exact rfl) (ok:∀v,Kq n l largs hs (ra v) hs=true:=by exact fun _=>rfl) (hh:K9 H (wrs (Cw n l) 0 hs):=by (repeat refine ⟨rfl,?_⟩); exact trivial):Fc P n H f args K :=
 C5 h fun v hv h=>Fc.rd l largs hs (ra v) (hG v (i.ok hv)) ha (ok v) hh (k v h)
theorem Bm {α:Type} {l:List α} {f:α->AV} {ys:List AV} {i:Int} {m:α->Option β} {K:Nat->AV->Prop} (h:(Ae l i).bind m=some r) (k:∀(n:Nat) (x:α),i=n->l[n]? = some x->m x=some r->K n (f x)) (he:ys=l.map f:=by first | exact rfl | exact Il _ | exact Jd _):R7 ys i K:=Agn he h k
theorem H8 {α:Type} {l:List α} {f:α->AV} {ys:List AV} {i:Int} {m:α->Option β} {K:Nat->Prop} {len kk:Nat} (h:(Ae l i).bind m=some r) (k:∀(n:Nat) (x:α),i=n->l[n]? = some x->m x=some r->K n) (he:ys=l.map f:=by first | exact rfl | exact Il _ | exact Jd _) (hl:len=l.length:=by first | exact rfl | assumption | exact H4 (by assumption) | ((repeat refine Gq ?_ _ _); first | exact rfl | assumption)) (hk:kk=l.length:=by first | exact rfl | assumption | exact H4 (by assumption) | ((repeat refine Gq ?_ _ _); first | exact rfl | assumption)):Nt len kk ys i K:=Aqk he hl hk h k
theorem Ri {α:Type} {l:List α} {f:α->AV} {ys:List AV} {i:Int} {m:α->Option β} {K:Nat->Prop} {off len kk:Nat} (h:(H3 l off len i).bind m=some r) (k:∀(n:Nat) (x:α),i=n->l[off+n]? = some x->m x=some r->K n) (he:ys=l.map f:=by first | exact rfl | exact Il _ | exact Jd _) (hk:kk=l.length:=by first | exact rfl | assumption | exact H4 (by assumption) | ((repeat refine Gq ?_ _ _); first | exact rfl | assumption)):Nt len kk ys i K:=Aql he hk h k
theorem M3 {α:Type} {l:List α} {f:α->AV} {ys:List AV} {K:Int->Prop} (k:K (l.length:Int)) (he:ys=l.map f:=by first | exact rfl | exact Il _ | exact Jd _):Jv ys K:=Ags he k
theorem M4 {α:Type} {l:List α} {f:α->AV} {ys:List AV} {kk:Nat} {K:Prop} (k:K) (he:ys=l.map f:=by first | exact rfl | exact Il _ | exact Jd _) (hk:kk=l.length:=by first | exact rfl | assumption | exact H4 (by assumption) | ((repeat refine Gq ?_ _ _); first | exact rfl | assumption)):Fb kk ys K:=Aqt he hk k
theorem M5 {K:Prop} (k:K):Fb 0 [] K:=.mk rfl k
theorem M6 {α:Type} {l:List α} {f:α->AV} {ys:List AV} {n i kk:Nat} {x:α} {K:AV->Prop} (k:K (f x)) (he:ys=l.map f:=by first | exact rfl | exact Il _ | exact Jd _) (hk:kk=l.length:=by first | exact rfl | assumption | exact H4 (by assumption) | ((repeat refine Gq ?_ _ _); first | exact rfl | assumption)) (hi:i=n/\l[n]? = some x:=by first | exact ⟨Nat.zero_add _,by assumption⟩ | exact ⟨rfl,by assumption⟩):I6 kk i ys K:=Aqn he hk hi.1 hi.2 k
theorem Ahj {α:Type} {l:List α} {f:α->AV} {ys:List AV} {n i:Nat} {j:Int} {x:α} {p:AV} {K:List AV->Prop} (k:K ((Cu l j x).map f)) (he:ys=l.map f:=by first | exact rfl | exact Il _ | exact Jd _) (hp:p=f x:=by exact rfl) (hi:i=n/\j=(n:Int):=by first | exact ⟨Nat.zero_add _,by assumption⟩ | exact ⟨rfl,by assumption⟩ | exact ⟨rfl,Aqj _ (by assumption)⟩):R8 ys i p K:=Mg he hp hi.1 hi.2 k
theorem Kb {α:Type} {l ys:List α} {f:α->AV} {xs zs:List AV} {b kk len:Nat} {m:List α->Option β} {K:List AV->Nat->Prop} {KP:List AV->Nat->Nat->Prop} (h:(B7 b l ys).bind m=some r) (k:∀o:List α,m o=some r->K (o.map f) o.length) (he:xs=l.map f/\zs=ys.map f:=by first | exact ⟨rfl,rfl⟩ | (refine ⟨?_,?_⟩; rotate_left; exact rfl; exact rfl)) (hk:kk=l.length:=by first | exact rfl | assumption | exact H4 (by assumption) | ((repeat refine Gq ?_ _ _); first | exact rfl | assumption)) (hl:len=l.length:=by first | exact rfl | assumption | exact H4 (by assumption) | ((repeat refine Gq ?_ _ _); first | exact rfl | assumption)):Kr xs zs kk len b K KP:=Aap he.1 he.2 hk hl h k
theorem Ahk {l:List Int} {s:ByteArray} {xs:List AV} {b kk len:Nat} {m:List Int->Option β} {K:List AV->Nat->Prop} {KP:List AV->Nat->Nat->Prop} (h:(B7 b l (Fe s)).bind m=some r) (k:∀o:List Int,m o=some r->K (o.map fun n=>.val (.int .u8 n)) o.length) (he:xs=l.map fun n=>.val (.int .u8 n):=by exact rfl) (hk:kk=l.length:=by first | exact rfl | assumption | exact H4 (by assumption) | ((repeat refine Gq ?_ _ _); first | exact rfl | assumption)) (hl:len=l.length:=by first | exact rfl | assumption | exact H4 (by assumption) | ((repeat refine Gq ?_ _ _); first | exact rfl | assumption)):Kr xs (G3 s) kk len b K KP:=Aqp he hk hl h k
class GL {α:Type} (g:List α->List AV) (f:outParam (α->AV)):Prop where
 eq:∀l,g l=l.map f
instance:GL Bd Cv:=⟨Il⟩
instance:GL Gr D7:=⟨Jd⟩
theorem Ahl {α:Type} {g:List α->List AV} {f:α->AV} [i:GL g f] {l ys:List α} {zs:List AV} {b kk len:Nat} {m:List α->Option β} {K:List AV->Nat->Prop} {KP:List AV->Nat->Nat->Prop} (h:(B7 b l ys).bind m=some r) (k:∀o:List α,m o=some r->K (g o) o.length) (hz:zs=ys.map f:=by first | exact rfl | exact GL.eq _) (hk:kk=l.length:=by first | exact rfl | assumption | exact H4 (by assumption) | ((repeat refine Gq ?_ _ _); first | exact rfl | assumption)) (hl:len=l.length:=by first | exact rfl | assumption | exact H4 (by assumption) | ((repeat refine Gq ?_ _ _); first | exact rfl | assumption)):Kr (g l) zs kk len b K KP:=Aqq i.eq (i.eq l) hz hk hl h k
theorem Ahm {α:Type} {ys:List α} {f:α->AV} {zs:List AV} {b:Nat} {m:List α->Option β} {K:List AV->Nat->Prop} (h:(B7 b [] ys).bind m=some r) (k:∀o:List α,m o=some r->K (o.map f) o.length) (hz:zs=ys.map f:=by exact rfl):Nv zs b K:=Agr hz h k
theorem Ahn {α:Type} {g:List α->List AV} {f:α->AV} [i:GL g f] {ys:List α} {zs:List AV} {b:Nat} {m:List α->Option β} {K:List AV->Nat->Prop} (h:(B7 b [] ys).bind m=some r) (k:∀o:List α,m o=some r->K (g o) o.length) (hz:zs=g ys:=by exact rfl):Nv zs b K:=Aqr i.eq (hz.trans (i.eq ys)) h k
theorem Gg {α:Type} {z:α} {f:α->AV} {za:AV} {len cap:Int} {b:Nat} {m:List α->Option β} {K:Nat->List AV->Prop} (h:(Ek b len cap z).bind m=some r) (k:∀o:List α,m o=some r->K o.length (o.map f)) (hz:za=f z:=by first | exact (rfl:_=O _ _) | exact (rfl:_=Am _) | exact rfl):Pz len cap b za K:=Aqs hz h k
theorem O8 {α:Type} {l:List α} {f:α->AV} {ys:List AV} {lo hi:Int} {m:List α->Option β} {K:List AV->Prop} (h:(Ga l lo hi).bind m=some r) (k:∀l':List α,m l'=some r->K (l'.map f)) (he:ys=l.map f:=by first | exact rfl | exact Il _ | exact Jd _):Nu ys lo hi K:=Agq he h k
theorem Aho {α:Type} {l:List α} {f:α->AV} {ys:List AV} {lo:Int} {m:List α->Option β} {K:List AV->Prop} (h:(Ga l lo l.length).bind m=some r) (k:∀l':List α,m l'=some r->K (l'.map f)) (he:ys=l.map f:=by first | exact rfl | exact Il _ | exact Jd _):Nu ys lo ys.length K:=Aqo he h k
theorem En {S E:Type} {step:S->Option (S⊕E)} {s0:S} {J:E->Option β} {b:Code} (h:(An step s0).bind J=some r) (iv:S->List (Nat×AV)) (hv:S->List (Nat×Bc)) (inv:S->Prop)
  (body:∀(s:S) (u:Nat->Value) (K:Nat->Bf->Hp->Prop) (o:S⊕E),step s=some o->(∀x,.inr x=o->J x=some r)->(∀s' n' e' H',.inl s'=o->Fr e' (iv s')->Fs H' (B6 H (hv s')) n n->inv s'->K n' e' H')->inv s ->
   wc P C b K Qe Qr n (Ig (D6 b) e u (iv s)) (B6 H (hv s)))
  (hb:∀s,Ix n (iv s) (hv s)=true:=by exact fun _=>rfl) (hs:Fr e (iv s0):=by (repeat refine ⟨rfl,?_⟩); exact trivial) (hh:Fs H (B6 H (hv s0)) n n:=by (repeat refine ⟨⟨rfl,rfl⟩,?_⟩); exact trivial) (h0:inv s0:=by first | exact rfl | assumption | exact H4 (by assumption) | ((repeat refine Gq ?_ _ _); first | exact rfl | assumption)):wc P C (.loop b) Qn Qe Qr n e H:=Agz h iv hv inv hb hs hh h0 body
theorem A2 {S E:Type} {step:S->Option (S⊕E)} {s0:S} {J:E->Option β} {b:Code} (h:(An step s0).bind J=some r) (iv:S->List (Nat×AV)) (hv:S->List (Nat×Bc))
  (body:∀(s:S) (u:Nat->Value) (K:Nat->Bf->Hp->Prop) (o:S⊕E),step s=some o->(∀x,.inr x=o->J x=some r)->(∀s' n' e' H',.inl s'=o->Fr e' (iv s')->Fs H' (B6 H (hv s')) n n->True->K n' e' H') ->
   wc P C b K Qe Qr n (Ig (D6 b) e u (iv s)) (B6 H (hv s)))
  (hb:∀s,Ix n (iv s) (hv s)=true:=by exact fun _=>rfl) (hs:Fr e (iv s0):=by (repeat refine ⟨rfl,?_⟩); exact trivial) (hh:Fs H (B6 H (hv s0)) n n:=by (repeat refine ⟨⟨rfl,rfl⟩,?_⟩); exact trivial):wc P C (.loop b) Qn Qe Qr n e H:=Agz h iv hv (fun _=>True) hb hs hh trivial fun s u K o h1 h2 h3 _=>body s u K o h1 h2 h3
theorem Ua {S S':Type} {c:Code} {o:Option S'} {m:S'->Option β} (inj:S->S') (h:o.bind m=some r) (iv:S->List (Nat×AV)) (hv:S->List (Nat×Bc))
  (k1:∀x,o=some x->∀(K:Nat->Bf->Hp->Prop),(∀s n' e' H',inj s=x->Fr e' (iv s)->Fs H' (B6 H (hv s)) n n->K n' e' H')->(∀y,y=x->m y=some r)->wc P C c K Qe Qr n e H)
  (k2:∀(s:S) (u:Nat->Value),m (inj s)=some r->Qn n (Ig (D6 c) e u (iv s)) (B6 H (hv s))) (hb:∀s,Ix n (iv s) (hv s)=true:=by exact fun _=>rfl):wc P C c Qn Qe Qr n e H :=
 Agm h fun x hx hj=>Si (fun s=>inj s=x) iv hv hb (fun K hK=>k1 x hx K hK hj) fun s u hs=>k2 s u (hj _ hs)
theorem Bg {S:Type} {c:Code} {o:Option S} {m:S->Option β} (h:o.bind m=some r) (iv:S->List (Nat×AV)) (hv:S->List (Nat×Bc))
  (k1:∀x,o=some x->∀(K:Nat->Bf->Hp->Prop),(∀s n' e' H',s=x->Fr e' (iv s)->Fs H' (B6 H (hv s)) n n->K n' e' H')->(∀y,y=x->m y=some r)->wc P C c K Qe Qr n e H)
  (k2:∀(s:S) (u:Nat->Value),m s=some r->Qn n (Ig (D6 c) e u (iv s)) (B6 H (hv s))) (hb:∀s,Ix n (iv s) (hv s)=true:=by exact fun _=>rfl):wc P C c Qn Qe Qr n e H:=Ua (fun s=>s) h iv hv k1 k2 hb
abbrev C0:Cfg:={T:=Ci,an:=fun _=>.ask}
theorem pw {f:FuncId} {fn:Func} {c:Code} {args:List AV} {r:AV} (C:Cfg) (hf:Go.Proofs.Tryz.prog.funcs[f]? = some fn) (hv:wc Go.Proofs.Tryz.prog C c (fun _ e H=>Ny C.T fn.results.toList (· = r) e H) (fun _ _ _ _=>False) (fun _ e H=>Ny C.T fn.results.toList (· = r) e H) 0 (P5 args) H0)
   (hT:C.T=Ci:=by exact rfl) (hb:fn.body=some c:=by exact rfl) (hname:(fn.name == "runtime.NumGoroutine")=false:=by kernel_rfl) (hok:P6 fn c args.length=true:=by kernel_rfl) (hfree:r.free=true:=by exact rfl):Aq Go.Proofs.Tryz.prog f args r:=Aqu (by rw [hT]; exact Ag2) Sc hf hb hname hok hfree hv
theorem aw {f:FuncId} {fn:Func} {c:Code} {args:List AV} {r:AV} {hs hs':List Bc} (C:Cfg) (fz:Bool) (hf:Go.Proofs.Tryz.prog.funcs[f]? = some fn) (hv:wc Go.Proofs.Tryz.prog C c (fun _ e H=>N1 C.T fz fn.results.toList r hs' e H) (fun _ _ _ _=>False) (fun _ e H=>N1 C.T fz fn.results.toList r hs' e H) hs.length (P5 args) (hp hs))
   (hT:C.T=Ci:=by exact rfl) (hb:fn.body=some c:=by exact rfl) (hname:(fn.name == "runtime.NumGoroutine")=false:=by kernel_rfl) (hok:P6 fn c args.length=true:=by kernel_rfl) (hok':Aak hs r hs'=true:=by exact rfl):Bq Go.Proofs.Tryz.prog f args hs r hs':=Aqv fz (by rw [hT]; exact Ag2) Sc hf hb hname hok hok' hv
end
theorem opk {P:Program} {T:Cg} {an:Nat->Ann} {nl:Nat->List (Nat×Nat)} {o:Oper} {n:Nat} {e:Bf} {H:Hp} {acc:Gp} {K:Nat->Bf->Hp->Gp->Prop} (k:opK P T an nl o n e H acc K):opK P T an nl o n e H acc K:=k
theorem cnd {t:Bool} {A B:Prop} (k:bif t then A else B):bif t then A else B:=k
structure Hd (Q:Prop):Prop where
 get:Q
theorem Z {P Q:Prop} (k:Q) (h:Hd Q->P:=by
  intro q
  repeat first
    | ((with_reducible show D3 (Dv _ _ _ _ _ (_::_) _ _ _ _ _)); (first | refine nx ?_ | refine Me ?_ | refine Md ?_))
    | ((with_reducible refine opk ?_); conv=>whnf
       first
      | ((with_reducible show D3 _); refine nw ?_)
      | ((with_reducible show F9 _ _ _); refine F9.mk _ rfl ?_)
      | ((with_reducible show Jv _ _); refine M3 ?_)
      | ((with_reducible show I6 _ _ _ _); refine M6 ?_)
      | ((with_reducible show Fb _ _ _); (first | refine M4 ?_ | refine M5 ?_)))
    | ((with_reducible show D3 (Dv _ _ _ _ _ [] _ _ _ _ _)); refine J0 ?_)
    | ((with_reducible show D3 (wc _ _ _ _ _ _ _ _ _)); refine nw ?_)
    | with_reducible refine As ?_
    | with_reducible refine Bn ?_
    | with_reducible refine Aat ?_
    | with_reducible refine Hk ?_
    | with_reducible refine G6 ?_
    | with_reducible refine Ff ?_
    | with_reducible refine Agw ?_
    | with_reducible refine Aav ?_
    | with_reducible refine Aau ?_
    | ((with_reducible refine cnd ?_); first | refine Fd rfl ?_ | refine Aaf rfl ?_)
    | ((with_reducible show Jz _ _ _); refine Jz.mk (by kernel_rfl) ?_)
    | ((with_reducible show wc _ _ (.cond _ _ _) _ _ _ _ _ _); first | refine Wf ?_ | refine N3 ?_)
    | refine nw ?_
    | refine nx ?_
    | refine J0 ?_
    | refine Me ?_
    | refine Md ?_
    | (conv=>whnf
       first
      | ((with_reducible show D3 _); refine nw ?_)
      | ((with_reducible show F9 _ _ _); refine F9.mk _ rfl ?_)
      | ((with_reducible show Jv _ _); refine M3 ?_)
      | ((with_reducible show I6 _ _ _ _); refine M6 ?_)
      | ((with_reducible show Fb _ _ _); (first | refine M4 ?_ | refine M5 ?_)))
  exact q.get):P:=h ⟨k⟩
theorem ZS {P Q:Prop} (k:Q) (h:Hd Q->P:=by
  intro q
  repeat first
    | ((with_reducible show D3 (Dv _ _ _ _ _ (_::_) _ _ _ _ _)); (first | refine nx ?_ | refine Me ?_ | refine Md ?_))
    | ((with_reducible refine opk ?_); conv=>whnf
       first
      | ((with_reducible show D3 _); refine nw ?_)
      | ((with_reducible show F9 _ _ _); refine F9.mk _ rfl ?_)
      | ((with_reducible show Jv _ _); refine M3 ?_)
      | ((with_reducible show I6 _ _ _ _); refine M6 ?_)
      | ((with_reducible show Fb _ _ _); (first | refine M4 ?_ | refine M5 ?_)))
    | ((with_reducible show D3 (Dv _ _ _ _ _ [] _ _ _ _ _)); refine J0 ?_)
    | ((with_reducible show D3 (wc _ _ _ _ _ _ _ _ _)); refine nw ?_)
    | with_reducible refine As ?_
    | with_reducible refine Aat ?_
    | with_reducible refine Hk ?_
    | with_reducible refine G6 ?_
    | with_reducible refine Ff ?_
    | with_reducible refine Aav ?_
    | with_reducible refine Aau ?_
    | ((with_reducible refine cnd ?_); first | refine Fd rfl ?_ | refine Aaf rfl ?_)
    | ((with_reducible show Jz _ _ _); refine Jz.mk (by kernel_rfl) ?_)
    | ((with_reducible show wc _ _ (.cond _ _ _) _ _ _ _ _ _); first | refine Wf ?_ | refine N3 ?_)
    | refine nw ?_
    | refine nx ?_
    | refine J0 ?_
    | refine Me ?_
    | refine Md ?_
    | (conv=>whnf
       first
      | ((with_reducible show D3 _); refine nw ?_)
      | ((with_reducible show F9 _ _ _); refine F9.mk _ rfl ?_)
      | ((with_reducible show Jv _ _); refine M3 ?_)
      | ((with_reducible show I6 _ _ _ _); refine M6 ?_)
      | ((with_reducible show Fb _ _ _); (first | refine M4 ?_ | refine M5 ?_)))
  exact q.get):P:=h ⟨k⟩
theorem ZO {P Q:Prop} (k:Q) (h:Hd Q->P:=by
  intro q
  repeat first
    | ((with_reducible show D3 (Dv _ _ _ _ _ (_::_) _ _ _ _ _)); (first | refine nx ?_ | refine Me ?_ | refine Md ?_))
    | ((with_reducible refine opk ?_); conv=>whnf
       first
      | ((with_reducible show F9 _ _ _); refine F9.mk _ rfl ?_)
      | ((with_reducible show Jv _ _); refine M3 ?_)
      | ((with_reducible show I6 _ _ _ _); refine M6 ?_)
      | ((with_reducible show Fb _ _ _); (first | refine M4 ?_ | refine M5 ?_)))
    | ((with_reducible show D3 (Dv _ _ _ _ _ [] _ _ _ _ _)); refine J0 ?_)
    | ((with_reducible show Jz _ _ _); refine Jz.mk (by kernel_rfl) ?_)
    | refine nx ?_
    | refine J0 ?_
    | refine Me ?_
    | refine Md ?_
    | (conv=>whnf
       first
      | ((with_reducible show F9 _ _ _); refine F9.mk _ rfl ?_)
      | ((with_reducible show Jv _ _); refine M3 ?_)
      | ((with_reducible show I6 _ _ _ _); refine M6 ?_)
      | ((with_reducible show Fb _ _ _); (first | refine M4 ?_ | refine M5 ?_)))
  exact q.get):P:=h ⟨k⟩
theorem Y {P:Prop} (h:P:=by
  repeat' first
    | ((with_reducible show D3 (Dv _ _ _ _ _ (_::_) _ _ _ _ _)); first | refine nx ?_ | refine Me ?_ | refine Md ?_ | refine Er h (fun _ h=>?_) (fun _ h=>?_))
    | ((with_reducible refine opk ?_); conv=>whnf
       first
      | ((with_reducible show D3 _); refine nw ?_)
      | ((with_reducible show F9 _ _ _); refine F9.mk _ rfl ?_)
      | ((with_reducible show Jv _ _); refine M3 ?_)
      | ((with_reducible show Fc _ _ _ _ _ _); (first | refine A7 h (fun _ h=>?_) | refine Ahi h (fun _ h=>?_)))
      | ((with_reducible show R7 _ _ _); refine Bm h (fun _ _ _ _ h=>?_))
      | ((with_reducible show Nt _ _ _ _ _); (first | refine H8 h (fun _ _ _ _ h=>?_) | refine Ri h (fun _ _ _ _ h=>?_)))
      | ((with_reducible show I6 _ _ _ _); refine M6 ?_)
      | ((with_reducible show R8 _ _ _ _); refine Ahj ?_)
      | ((with_reducible show Kr _ _ _ _ _ _ _); (first | refine Ahk h (fun _ h=>?_) | refine Kb h (fun _ h=>?_) | refine Ahl h (fun _ h=>?_)))
      | ((with_reducible show Nv _ _ _); (first | refine Ahm h (fun _ h=>?_) | refine Ahn h (fun _ h=>?_)))
      | ((with_reducible show Pz _ _ _ _ _); refine Gg h (fun _ h=>?_))
      | ((with_reducible show Nu _ _ _ _); (first | refine Aho h (fun _ h=>?_) | refine O8 h (fun _ h=>?_)))
      | ((with_reducible show Fb _ _ _); (first | refine M4 ?_ | refine M5 ?_))
      | ((with_reducible show Vr _ _ _); refine J2 h (fun _ h=>?_))
      | ((with_reducible show Vn _ _ _ _); refine Lc h (fun _ h=>?_))
      | ((with_reducible show Vo _ _ _); refine Iy h (fun _ h=>?_))
      | ((with_reducible show Z3 _ _ _ _); refine ob_shl h (fun _ h=>?_))
      | ((with_reducible show Vp _ _ _ _); refine Agu h (fun _ h=>?_))
      | ((with_reducible show Vq _ _ _ _); refine Aar h (fun _ _ _ _ h=>?_))
      | ((with_reducible show Vt _ _); refine Ft h (fun h=>?_))
      | ((with_reducible show Vs _ _); refine J3 h (fun _ h=>?_))
      | ((with_reducible show Vu _ _ _ _ _); refine Ago h (fun _ h=>?_))
      | ((with_reducible show Vv _ _ _ _); refine Agp h (fun _ h=>?_)))
    | ((with_reducible show D3 (Dv _ _ _ _ _ [] _ _ _ _ _)); refine J0 ?_)
    | ((with_reducible show D3 (wc _ _ _ _ _ _ _ _ _)); refine nw ?_)
    | with_reducible refine As ?_
    | with_reducible refine Bn ?_
    | with_reducible refine Aat ?_
    | with_reducible refine Hk ?_
    | with_reducible refine G6 ?_
    | with_reducible refine Ff ?_
    | with_reducible refine Agw ?_
    | with_reducible refine Aav ?_
    | with_reducible refine Aau ?_
    | ((with_reducible refine cnd ?_); first | refine Fd rfl ?_ | refine Aaf rfl ?_)
    | ((with_reducible show wc _ _ (.cond _ _ _) _ _ _ _ _ _); first | refine Ai h (fun _ h=>?_) (fun _ h=>?_) | refine Wf ?_ | refine N3 ?_)
    | ((with_reducible show Jz _ _ _); refine Jz.mk (by kernel_rfl) ?_)
    | refine nx ?_
    | refine J0 ?_
    | refine Me ?_
    | refine Md ?_
    | refine Er h (fun _ h=>?_) (fun _ h=>?_)
    | exact lpn h
    | exact jnn h
    | replace h:=B9 h
    | replace h:=lpj h
    | refine nw ?_
    | (conv=>whnf
       first
      | ((with_reducible show D3 _); refine nw ?_)
      | ((with_reducible show F9 _ _ _); refine F9.mk _ rfl ?_)
      | ((with_reducible show Jv _ _); refine M3 ?_)
      | ((with_reducible show Fc _ _ _ _ _ _); (first | refine A7 h (fun _ h=>?_) | refine Ahi h (fun _ h=>?_)))
      | ((with_reducible show R7 _ _ _); refine Bm h (fun _ _ _ _ h=>?_))
      | ((with_reducible show Nt _ _ _ _ _); (first | refine H8 h (fun _ _ _ _ h=>?_) | refine Ri h (fun _ _ _ _ h=>?_)))
      | ((with_reducible show I6 _ _ _ _); refine M6 ?_)
      | ((with_reducible show R8 _ _ _ _); refine Ahj ?_)
      | ((with_reducible show Kr _ _ _ _ _ _ _); (first | refine Ahk h (fun _ h=>?_) | refine Kb h (fun _ h=>?_) | refine Ahl h (fun _ h=>?_)))
      | ((with_reducible show Nv _ _ _); (first | refine Ahm h (fun _ h=>?_) | refine Ahn h (fun _ h=>?_)))
      | ((with_reducible show Pz _ _ _ _ _); refine Gg h (fun _ h=>?_))
      | ((with_reducible show Nu _ _ _ _); (first | refine Aho h (fun _ h=>?_) | refine O8 h (fun _ h=>?_)))
      | ((with_reducible show Fb _ _ _); (first | refine M4 ?_ | refine M5 ?_))
      | ((with_reducible show Vr _ _ _); refine J2 h (fun _ h=>?_))
      | ((with_reducible show Vn _ _ _ _); refine Lc h (fun _ h=>?_))
      | ((with_reducible show Vo _ _ _); refine Iy h (fun _ h=>?_))
      | ((with_reducible show Z3 _ _ _ _); refine ob_shl h (fun _ h=>?_))
      | ((with_reducible show Vp _ _ _ _); refine Agu h (fun _ h=>?_))
      | ((with_reducible show Vq _ _ _ _); refine Aar h (fun _ _ _ _ h=>?_))
      | ((with_reducible show Vt _ _); refine Ft h (fun h=>?_))
      | ((with_reducible show Vs _ _); refine J3 h (fun _ h=>?_))
      | ((with_reducible show Vu _ _ _ _ _); refine Ago h (fun _ h=>?_))
      | ((with_reducible show Vv _ _ _ _); refine Agp h (fun _ h=>?_)))
    | (have h:=Option.some.inj h; subst h; exact rfl)
    | (cases h; (repeat refine ⟨rfl,?_⟩); exact trivial)
    | (cases h; done)
):P:=h
end Go.Ab
namespace Go.Ab
open Go Go.Proofs
set_option maxRecDepth 10000
set_option linter.unusedVariables false
theorem Aq9 {a0 r:List Dd} (h:B7 16 [] a0=some r):Aq Go.Proofs.Tryz.prog 300 [Av 2 Gf a0] (Av 2 Gf r):=by
 have h:((B7 16 [] a0).bind fun o=>some o)=some r:=by rw [h]; rfl
 refine pw {T:=Ci,an:=(fun s=>bif Nat.beq s 5 then .own else .ask),nl:=(fun s=>bif Nat.beq s 2 then [(0,2)] else [])} Tryz.func300 ?_
 refine As ?_
 refine Bn ?_
 refine ZO ?_
 refine As (As ?_)
 refine Si (fun b:Bool=>b=true->a0 = []) (fun b=>[(4,Am b)]) (fun _=>[]) (fun _=>rfl) ?_ ?_
 .intro K hK
  refine Aax 0 ?_
  intro v hv
  obtain ⟨p,c,rfl,hp⟩:=hv 2 (a0.map Gf) rfl
  refine Bn ?_
  refine nx ?_
  refine nx ?_
  refine J0 ?_
  refine hK p.isNone _ _ _ (fun e=>?_) ⟨rfl,trivial⟩ trivial
  cases p with
  | none=>simpa using hp rfl
  | some _=>cases e
 .rintro b _ hb
  cases b with
  | true=>
   have hb:=hb rfl
   subst hb
   have h:some ([]:List Dd)=some r:=by rw [<-h]; rfl
   exact Y
  | false=>
   refine Z ?_
   exact Y
theorem Ara {a0:List Cd} {r:List Cd×List Cd} (h:Wg 40 a0=some r):Bq Go.Proofs.Tryz.prog 170 [Av 3 Ei a0] [] (.arr 1 r.2.length 0 r.2.length) [.rows 65 3 (r.1.map Ei),.rows 65 3 (r.2.map Ei)]:=by
 have h:((B7 40 [] a0).bind fun o=>some (([]:List Cd),o))=some r:=h
 refine aw {T:=Ci,an:=(fun s=>bif Nat.beq s 5 then .own else bif Nat.beq s 2 then .own else .ask),nl:=(fun _=>[])} false Tryz.func170 ?_
 refine As ?_
 refine Bn ?_
 refine ZO ?_
 refine As (As ?_)
 refine Si (fun b:Bool=>b=true->a0 = []) (fun b=>[(4,Am b)]) (fun _=>[]) (fun _=>rfl) ?_ ?_
 .intro K hK
  refine Aax 0 ?_
  intro v hv
  obtain ⟨p,c,rfl,hp⟩:=hv 3 (a0.map Ei) rfl
  refine Bn ?_
  refine nx ?_
  refine nx ?_
  refine J0 ?_
  refine hK p.isNone _ _ _ (fun e=>?_) ⟨rfl,trivial⟩ ⟨⟨rfl,rfl⟩,trivial⟩
  cases p with
  | none=>simpa using hp rfl
  | some _=>cases e
 .rintro b _ hb
  cases b with
  | true=>
   have hb:=hb rfl
   subst hb
   have h:some (([]:List Cd),([]:List Cd))=some r:=by rw [<-h]; rfl
   cases h
   refine ZO ?_
   exact Y
  | false=>
   refine Z ?_
   refine ZO ?_
   refine Kb h (fun _ h=>?_)
   exact Y
theorem Arb {a0:List B1} {r:List B1×List B1} (h:Wg 40 a0=some r):Bq Go.Proofs.Tryz.prog 176 [Av 3 Dw a0] [] (.arr 1 r.2.length 0 r.2.length) [.rows 75 3 (r.1.map Dw),.rows 75 3 (r.2.map Dw)]:=by
 have h:((B7 40 [] a0).bind fun o=>some (([]:List B1),o))=some r:=h
 refine aw {T:=Ci,an:=(fun s=>bif Nat.beq s 5 then .own else bif Nat.beq s 2 then .own else .ask),nl:=(fun _=>[])} false Tryz.func176 ?_
 refine As ?_
 refine Bn ?_
 refine ZO ?_
 refine As (As ?_)
 refine Si (fun b:Bool=>b=true->a0 = []) (fun b=>[(4,Am b)]) (fun _=>[]) (fun _=>rfl) ?_ ?_
 .intro K hK
  refine Aax 0 ?_
  intro v hv
  obtain ⟨p,c,rfl,hp⟩:=hv 3 (a0.map Dw) rfl
  refine Bn ?_
  refine nx ?_
  refine nx ?_
  refine J0 ?_
  refine hK p.isNone _ _ _ (fun e=>?_) ⟨rfl,trivial⟩ ⟨⟨rfl,rfl⟩,trivial⟩
  cases p with
  | none=>simpa using hp rfl
  | some _=>cases e
 .rintro b _ hb
  cases b with
  | true=>
   have hb:=hb rfl
   subst hb
   have h:some (([]:List B1),([]:List B1))=some r:=by rw [<-h]; rfl
   cases h
   refine ZO ?_
   exact Y
  | false=>
   refine Z ?_
   refine ZO ?_
   refine Kb h (fun _ h=>?_)
   exact Y
end Go.Ab
namespace Go.Ab
open Go Go.Proofs Go.Shelf
set_option maxRecDepth 100000
set_option linter.unusedVariables false
theorem Ca.up {σ:Aw} {ι:Bi} {H:Hp} {F:Aw} {w w':World} {x:Nat} (h:Ca σ ι H F w x) (hk:∀(b:Nat) (o:Obj),w.heap[b]? = some o->w'.heap[b]? = some o):Ca σ ι H F w' x:=by
 unfold Ca at h ⊢
 cases hx:H x with
 | none=>rw [hx] at h; exact h
 | dead=>trivial
 | cells E cs=>
  rw [hx] at h
  obtain ⟨b,C,h1,h2,h3,h4,f⟩:=h
  exact ⟨b,C,h1,h2,h3,hk _ _ h4,f⟩
 | rows E sz xs=>
  rw [hx] at h
  obtain ⟨h0,h1,h2⟩:=h
  refine ⟨h0,h1,?_⟩
  rcases h2 with h2 | ⟨b,c,C,l,k,j,i,g⟩
  .exact .inl h2
  .exact .inr ⟨b,c,C,l,k,j,hk _ _ i,g⟩
 | map es=>
  rw [hx] at h
  obtain ⟨b,M,t,h1,h2,h3,h4,f⟩:=h
  exact ⟨b,M,t,h1,h2,h3,hk _ _ h4,f⟩
end Go.Ab
namespace Go.Ab
open Go Go.Proofs Go.Shelf
set_option maxRecDepth 100000
set_option linter.unusedVariables false
theorem Vj {σ:Aw} {ι:Bi} {H:Hp} {u v:Value} (h:Conc σ ι H (.val u) v):v=u:=by
 cases h with
 | cc h=>cases h; rfl
theorem Ahp {ρ:Ren} {α:Type} {Z:α->AV} {E:TypeId} {sz f:Nat} (L:Lays8.n4 Go.Proofs.Tryz.prog ρ) (N:ρ.f 4=f) (g:Z0 Go.Proofs.Tryz.prog f) (l:TypeInfo) (z:Value) (G:Go.Proofs.Tryz.prog.info? (ρ.t 25)=some l) (D:l.zero=some z) (X:ρ.t 25=E) (U:l.size=sz) (B:z.cells.size=sz) (q:0<sz) (I:l.bytes<=1000)
  {n:Int} {r:List α} (h:P9 n=some r):Bq Go.Proofs.Tryz.prog f [.val (.slice none 0 0),O .i64 n] [] (.arr 0 r.length 0 r.length) [.rows E sz (r.map Z)]:=by
 have V:r = []/\0<=n/\n<=1000000:=by
  unfold P9 at h
  by_cases h1:0<=n
  .by_cases h2:n<=1000000
   .rw [decide_eq_true h1,decide_eq_true h2] at h
    have h:some ([]:List α)=some r:=h
    cases h; exact ⟨rfl,h1,h2⟩
   .rw [decide_eq_false h2,Bool.and_false] at h; cases h
  .rw [decide_eq_false h1,Bool.false_and] at h; cases h
 obtain ⟨rfl,n0,n1⟩:=V
 obtain ⟨m,rfl⟩:∃m:Nat,n=m:=⟨n.toNat,by omega⟩
 refine ⟨g,fun σ F W w ι vs s y=>?_⟩
 obtain ⟨v,u,rfl,S,hu⟩:=T9 y
 obtain rfl:=Vj S
 obtain rfl:=Vj hu
 have M:hp [] 0 = .none:=rfl
 have R:A3 (hp []) 0 (.rows E sz [])=hp [.rows E sz []]:=by
  funext i
  match i with
  | 0=>rfl
  | i+1=>rfl
 by_cases h0:m=0
 .subst h0
  have call:=Any8.slices_Grow_room L none 0 0 0 w (Nat.le_refl _) (by decide) (by decide) (by decide)
  rw [N] at call
  refine call.mono ?_
  rintro e w' ⟨rfl,rfl⟩
  obtain ⟨s',le⟩:=s.newNil 0 M E sz q
  rw [R] at s' le
  refine ⟨_,σ,_,rfl,le,s',.arr 0 0 0 0 _ (by intro e; cases e) (fun E' A xs e=>?_) rfl⟩
  cases e
  refine ⟨Nat.le_refl _,fun _=>?_⟩
  unfold E5
  rw [B5]
  exact ⟨rfl,rfl,rfl⟩
 .have hb:(0+m)*l.bytes<=140737488355328:=by
   have:=Nat.mul_le_mul (show 0+m<=1000000 by omega) I
   omega
  have call:=Any8.slices_Grow_grow L l z G D (by omega) none 0 0 m [] w (Nat.le_refl _) (by omega) hb (by omega) (by simp) (fun _=>rfl) (fun a h=>by cases h)
  rw [N,X] at call
  refine call.mono ?_
  rintro e w' ⟨rfl,rfl⟩
  have hge:=Vc w (0+m) 0 E
  generalize grownCap w (0+m) 0 E=cap at hge
  have b:∀k,(Builtin.zeroCells z.cells k).size=k*sz:=by intro k; simp [Builtin.zeroCells,B]
  generalize Y:(([]:List Value).toArray++Builtin.zeroCells z.cells (0+m-0)++Builtin.zeroCells z.cells (cap-(0+m)))=C
  have J:C.size=cap*sz:=by
   rw [<-Y,Array.size_append,Array.size_append,b,b]
   simp only [List.size_toArray,List.length_nil,Nat.zero_add,Nat.sub_zero,<-Nat.add_mul]
   congr 1; omega
  obtain ⟨s',le⟩:=(s.drew (w.drawn+1)).newRows 0 E sz [] cap C (.inl M) q (by simp) (by simp) J ⟨fun _ _=>.bool false,(by intro i x h; simp at h),(by intro i x j c h; simp at h),(by intro i j h; simp at h)⟩
  rw [R] at s' le
  refine ⟨_,σ,_,rfl,le,s',.arr 0 0 0 0 _ (by intro e; cases e) (fun E' A xs e=>?_) rfl⟩
  cases e
  refine ⟨Nat.le_refl _,fun _=>?_⟩
  unfold E5
  rw [B5]
  exact ⟨Nat.zero_le _,by simp⟩
def Arc:Ren:={f:=fun x=>match x with | 4=>326 | n=>n,t:=fun x=>match x with | 22=>46 | 25=>65 | 3=>3 | 4=>4 | 9=>9 | 20=>20 | 0=>0 | n=>n,g:=fun n=>n}
theorem Ard:Lays8.n4 Go.Proofs.Tryz.prog Arc:=by
 constructor
 case f4=>exact Exists.intro "slices.Grow[[]amortcost/api.Factor,amortcost/api.Factor]" ⟨by kernel_rfl,by kernel_rfl⟩
 all_goals first | kernel_rfl | (intro w; kernel_rfl)
theorem Are {α:Type} {b:α->AV} {n:Int} {r:List α} (h:P9 n=some r):Bq Go.Proofs.Tryz.prog 326 [.val (.slice none 0 0),O .i64 n] [] (.arr 0 r.length 0 r.length) [.rows 65 3 (r.map b)] :=
 Ahp Ard rfl ⟨_,Tryz.func326,by kernel_rfl,by kernel_rfl⟩ Tryz.t65 (Tryz.t65.zero.getD .nilFunc) (by kernel_rfl) (by kernel_rfl) rfl (by kernel_rfl) (by kernel_rfl) (by decide) (of_decide_eq_true (by kernel_rfl)) h
def Arf:Ren:={f:=fun x=>match x with | 4=>327 | n=>n,t:=fun x=>match x with | 22=>47 | 25=>75 | 3=>3 | 4=>4 | 9=>9 | 20=>20 | 0=>0 | n=>n,g:=fun n=>n}
theorem Arg:Lays8.n4 Go.Proofs.Tryz.prog Arf:=by
 constructor
 case f4=>exact Exists.intro "slices.Grow[[]amortcost/api.Atom,amortcost/api.Atom]" ⟨by kernel_rfl,by kernel_rfl⟩
 all_goals first | kernel_rfl | (intro w; kernel_rfl)
theorem Arh {α:Type} {b:α->AV} {n:Int} {r:List α} (h:P9 n=some r):Bq Go.Proofs.Tryz.prog 327 [.val (.slice none 0 0),O .i64 n] [] (.arr 0 r.length 0 r.length) [.rows 75 3 (r.map b)] :=
 Ahp Arg rfl ⟨_,Tryz.func327,by kernel_rfl,by kernel_rfl⟩ Tryz.t75 (Tryz.t75.zero.getD .nilFunc) (by kernel_rfl) (by kernel_rfl) rfl (by kernel_rfl) (by kernel_rfl) (by decide) (of_decide_eq_true (by kernel_rfl)) h
end Go.Ab
namespace Go.Proofs
open Go.Shelf Go.RowKit Go.Sort Go.Lib
set_option linter.unusedVariables false
set_option maxHeartbeats 6400000 in
set_option maxRecDepth 100000 in
theorem Tryz.fmtU_calls (u:Nat) (c:u<18446744073709551616) (w:World) (s:Lib.TabIs Go.Proofs.Tryz.prog w "internal/strconv.uint64pow10" .u64 Lib.pow10Tab) :
  Calls Go.Proofs.Tryz.prog 218 #[.int .u64 u,.int .i64 10] w fun e w'=>e = .returned (.string ⟨(Lib.decDigits u).toArray⟩)/\Below w.heap.size w w':=by
 have J:∀args w,(callFunc 210 args).run Go.Proofs.Tryz.prog w = .ok (.enter 210 args) w:=enters_of Tryz.func210 (by kernel_rfl) rfl
 have I:∀args w,(callFunc 211 args).run Go.Proofs.Tryz.prog w = .ok (.enter 211 args) w:=enters_of Tryz.func211 (by kernel_rfl) rfl
 have G:∀args w,(callFunc 212 args).run Go.Proofs.Tryz.prog w = .ok (.enter 212 args) w:=enters_of Tryz.func212 (by kernel_rfl) rfl
 by_cases hi:u<100
 .have hc:∀W,Calls Go.Proofs.Tryz.prog 210 #[.int .i64 u] W fun e w'=>e = .returned (.string ⟨(Lib.decDigits u).toArray⟩)/\w'=W:=fun W=>Any.internal_strconv_small {Go.Ab.T7 with} u hi W
  go_enter Tryz.func218,Tryz.ntmps218
  go_wp2_with (go_at_fn 210; refine (hc _).mono ?_; rintro e w' ⟨rfl,rfl⟩)
  go_ret
  exact ⟨rfl,Below.refl _ _⟩
 .have l:1<=u:=by omega
  have A:Lib.nDigits u<=20:=by have:=Lib.numDigits_eq u l c; split at this <;> omega
  have y:Go.Proofs.Tryz.prog.arrayLen 255=24:=by kernel_rfl
  have E:∀W,(Instr.sliceAt 255 (.pointer (some ⟨w.heap.size,0,none⟩)) none (some (.int .i64 (Lib.nDigits u:Int))) none).run Go.Proofs.Tryz.prog W = .ok (.slice (some ⟨w.heap.size,0,none⟩) (Lib.nDigits u) 24) W:=fun W=>by
   rw [run_sliceAt_array_h W 255 ⟨w.heap.size,0,none⟩ (by kernel_rfl) .i64 (Lib.nDigits u:Int) (by omega) (by rw [y]; omega)]
   go_simp
  have g:=Lib.holds_zero0 w 255 (Lib.nDigits u) (by omega)
  have f:=Any.internal_strconv_formatBase10 {Go.Ab.T7 with} w.heap.size 0 24 u (Array.replicate (Lib.nDigits u) 0) (w.alloc (.cells Lib.zeros24 255)) g (by rw [Array.size_replicate]; exact Lib.lt_pow_nDigits u) c (by rw [Array.size_replicate]; omega)
  rw [Array.size_replicate] at f
  have x:∀W,Lib.TabIs Go.Proofs.Tryz.prog W "internal/strconv.uint64pow10" .u64 Lib.pow10Tab->Calls Go.Proofs.Tryz.prog 211 #[.int .u64 u] W fun e w'=>e = .returned (.int .i64 (Lib.nDigits u))/\w'=W:=fun W h=>Any.internal_strconv_numDigits {Go.Ab.T7 with} u l c W h
  have D:=Lib.hid g
  clear g y
  go_enter Tryz.func218,Tryz.ntmps218
  go_wp2_with (first
   | (go_at_fn 211; refine (x _ (Lib.tabIs_alloc s _)).mono ?_; rintro e w' ⟨rfl,rfl⟩))
  go_at_fn 212
  refine f.mono ?_
  rintro e w' ⟨rfl,k,M,z,rfl,B⟩
  have L:(convert 40 9 (.slice (some ⟨w.heap.size,0,none⟩) (Lib.nDigits u) 24)).run Go.Proofs.Tryz.prog ((putRow (fun (b:UInt8)=>Value.int .u8 (b.toNat:Int)) (w.alloc (.cells Lib.zeros24 255)) w.heap.size 0 z).drewN k) = .ok (.string ⟨(Lib.decDigits u).toArray⟩) ((putRow (fun (b:UInt8)=>Value.int .u8 (b.toNat:Int)) (w.alloc (.cells Lib.zeros24 255)) w.heap.size 0 z).drewN k):=by
   have h:=run_convert_bytes_back (P:=Go.Proofs.Tryz.prog) ((putRow (fun (b:UInt8)=>Value.int .u8 (b.toNat:Int)) (w.alloc (.cells Lib.zeros24 255)) w.heap.size 0 z).drewN k) 40 9 5 ⟨w.heap.size,0,none⟩ 24 (Lib.decDigits u) (by kernel_rfl) (by kernel_rfl) (by kernel_rfl) (fun j hj=>by
    rw [Lib.row_is_numeral B j hj,Lib.add_plain,World.cell?_drewN]
    exact cell?_putRow (fun (b:UInt8)=>Value.int .u8 (b.toNat:Int)) _ w.heap.size 0 _ z D.out (by rw [B.size,Array.size_replicate]) j (by rw [B.size]; rw [Lib.decDigits_length] at hj; exact hj))
   rw [Lib.decDigits_length] at h
   exact h
  go_wp2
  go_ret
  refine ⟨rfl,?_⟩
  rw [alloc_eq_grow]
  obtain ⟨i,_,e⟩:=putRow_grow_new (fun (b:UInt8)=>Value.int .u8 (b.toNat:Int)) w #[.cells Lib.zeros24 255] w.heap.size 0 z (Nat.le_refl _)
  rw [e]
  refine ⟨rfl,rfl,rfl,?_,fun q hq=>?_⟩
  .show w.heap.size<=(w.heap++i).size
   simp
  .show (w.heap++i)[q]? = _
   exact Array.getElem?_append_left hq
end Go.Proofs
namespace Go.Ab
open Go Go.Proofs Go.Shelf Go.RowKit
set_option maxRecDepth 100000
def Acd:Ren:={f:=fun x=>match x with | 156=>48 | 165=>93 | 166=>12 | 169=>14 | 240=>38 | 241=>148 | 276=>80 | 277=>222 | 105=>147 | 212=>219 | 99=>220 | 170=>221 | 263=>260 | 264=>261 | 206=>262 | n=>n,t:=fun x=>match x with | 31=>103 | 9=>9 | 3=>3 | 4=>4 | 0=>0 | 20=>20 | 72=>42 | 76=>55 | 70=>39 | 37=>40 | 75=>54 | 127=>107 | 164=>133 | 5=>5 | 80=>58 | 46=>266 | 109=>267 | 51=>119 | 146=>305 | 53=>118 | 148=>307 | n=>n,g:=fun n=>n}
theorem Ahq:Lays.n156 Go.Proofs.Tryz.prog Acd:=by
 constructor
 all_goals first | kernel_rfl | (intro w; kernel_rfl)
theorem Ari:Lays.n105 Go.Proofs.Tryz.prog Acd:=by
 constructor
 all_goals first | kernel_rfl | (intro w; kernel_rfl)
theorem Ace:Builder.Extra Go.Proofs.Tryz.prog Acd:=by
 constructor
 constructor
 all_goals first | kernel_rfl | (intro w; kernel_rfl) | decide
theorem St.below {σ F:Aw} {W w w':World} (s:St σ ι0 H0 F W w) (h:Below w.heap.size w w'):St σ ι0 H0 F W w':=by
 have hk:∀(b:Nat) (o:Obj),w.heap[b]? = some o->w'.heap[b]? = some o:=by
  intro b o e
  rw [h.block b (Array.getElem?_eq_some_iff.1 e).1]; exact e
 exact ⟨fun b o h=>hk b o (s.sto b o h),fun b o h=>⟨hk b o (s.fra b o h).1,(s.fra b o h).2⟩,fun _=>rfl,(fun _ _ _ c=>by cases c),h.os.trans s.os,h.tape.trans s.tape,h.output.trans s.output,s.glo,trivial⟩
theorem Arj {a0:List ByteArray} {a1:ByteArray} {r:ByteArray} (h:Wh a0 a1=some r):Aq Go.Proofs.Tryz.prog 48 [.sl 1 (a0.map Bk),Bk a1] (Bk r):=by
 unfold Wh at h
 split at h
 .rename_i hc
  cases h
  refine ⟨⟨_,Tryz.func48,by kernel_rfl,by kernel_rfl⟩,fun σ F W w vs s f=>?_⟩
  obtain ⟨v,u,rfl,z,hu⟩:=T9 f
  have hu:=hu.val_inv
  subst hu
  rcases z.sl_inv.sl_inv with ⟨h0,p,cap,he⟩ | ⟨b,off,cap,C,E,fr,g,he,q,hs,i,A,k,c⟩
  .have h0:a0 = []:=List.map_eq_nil_iff.1 h0
   subst h0; subst he
   refine (Any.strings_Join_none Ahq Ace p cap a1 w).mono ?_
   rintro e w' ⟨rfl,rfl⟩
   exact ⟨_,σ,rfl,Aw.le_refl σ,s,.of_val _⟩
  .subst he
   rw [List.length_map] at k c
   have hb:=s.sto _ _ q
   have call:=Any.strings_Join Ahq Ace b off cap a0 a1 w (fun j x hx=>by
    have hj:=(List.getElem?_eq_some_iff.1 hx).1
    have D:=A j 0 (by rw [List.length_map]; exact hj) (by decide)
    have l:=(i j (Bk x) 0 (Bk x) (by rw [List.getElem?_map,hx]; rfl) rfl).1
    have B:g j 0 = .string x:=by
     generalize g j 0=v at l
     cases l; rfl
    rw [Hi hb,show off+j=off+j*1+0 by omega,D,B]) (Array.getElem?_eq_some_iff.1 hb).1 k c hc
   rw [List.length_map]
   refine call.mono ?_
   rintro e w' ⟨rfl,y⟩
   exact ⟨_,σ,rfl,Aw.le_refl σ,s.below y,.of_val _⟩
 .cases h
theorem Ark {a0:ByteArray} {a1:Int} {r:ByteArray} (h:Wi a0 a1=some r):Aq Go.Proofs.Tryz.prog 147 [Bk a0,O .i64 a1] (Bk r):=by
 unfold Wi at h
 split at h
 .rename_i hc
  cases h
  refine ⟨⟨_,Tryz.func147,by kernel_rfl,by kernel_rfl⟩,fun σ F W w vs s b=>?_⟩
  obtain ⟨v,u,rfl,c,hu⟩:=T9 b
  have c:=c.val_inv
  have hu:=hu.val_inv
  subst c; subst hu
  obtain ⟨n,rfl⟩:∃n:Nat,a1=n:=⟨a1.toNat,by omega⟩
  rw [Int.toNat_natCast] at hc ⊢
  refine (Any.strings_Repeat Ari Ace a0 n w (by omega) (by omega)).mono ?_
  rintro e w' ⟨rfl,f⟩
  exact ⟨_,σ,rfl,Aw.le_refl σ,s.below f,.of_val _⟩
 .cases h
theorem Arl {a0 a1:Int} {r:ByteArray} (h:Wj a0 a1=some r):Aq Go.Proofs.Tryz.prog 218 [O .u64 a0,O .i64 a1] (Bk r):=by
 unfold Wj at h
 cases hb:a1==10 with
 | false=>rw [hb] at h; cases h
 | true=>
  rw [hb] at h
  have hb:=eq_of_beq hb
  subst hb
  have h:(if 0<=a0/\a0<18446744073709551616 then some (⟨(Lib.decDigits a0.toNat).toArray⟩:ByteArray) else none)=some r:=h
  split at h
  .rename_i hc
   cases h
   refine ⟨⟨_,Tryz.func218,by kernel_rfl,by kernel_rfl⟩,fun σ F W w vs s b=>?_⟩
   obtain ⟨v,u,rfl,c,hu⟩:=T9 b
   have c:=c.val_inv
   have hu:=hu.val_inv
   subst c; subst hu
   obtain ⟨n,rfl⟩:∃n:Nat,a0=n:=⟨a0.toNat,by omega⟩
   refine (Tryz.fmtU_calls n (by omega) w (Acb s)).mono ?_
   rintro e w' ⟨rfl,f⟩
   exact ⟨_,σ,rfl,Aw.le_refl σ,s.below f,.of_val _⟩
  .cases h
end Go.Ab
