/- Contracts of strings.Builder and strconv.Itoa. -/
import Derived.Test.YtbobikfnkmhgnaaGreatDoorBpTy
import Derived.Test.YtbobikfnkmhgnaaGreatDoorBpHandB
import Derived.Shelf.Strconv.Itoa4
import Derived.KernelRfl
import Derived.Shelf.Sort.Plain
import Derived.Shelf.SlSortCmp.WholeK
import Derived.Shelf.Spec.SlicesGrow
namespace Go.Ab
open Go Go.Proofs Go.Shelf
set_option maxRecDepth 100000
def Aip:Ren:={f:=fun x=>match x with | 171=>166 | 243=>234 | 246=>285 | 283=>331 | 284=>332 | 285=>333 | 286=>334 | 129=>268 | 317=>365 | 318=>366 | 319=>367 | 320=>368 | 337=>379 | 338=>380 | 173=>256 | n=>n,t:=fun x=>match x with | 3=>3 | 9=>9 | 2=>2 | 4=>4 | 171=>362 | 0=>0 | 53=>105 | 37=>197 | 5=>5 | 173=>364 | 212=>397 | 51=>106 | 20=>20 | 213=>398 | 46=>246 | 232=>414 | 233=>415 | n=>n,g:=fun x=>match x with | 17=>0 | 18=>1 | 19=>2 | n=>n}
theorem Aiq:LaysM.n171 Go.Proofs.Tryz.prog Aip:=by
 constructor
 constructor
 all_goals first | kernel_rfl | (intro w; kernel_rfl)
theorem St.grown {σ:Av} {F:Av} {W w:World} (s:St σ ι0 H0 F W w) (k:Nat) (os:Array Obj):St σ ι0 H0 F W (Sort.grow (w.drewN k) os):=by
 have hk:∀(b:Nat) (o:Obj),w.heap[b]? = some o->(Sort.grow (w.drewN k) os).heap[b]? = some o:=by
  intro b o h
  have c:=(Array.getElem?_eq_some_iff.1 h).1
  show (w.heap++os)[b]? = _
  rw [Array.getElem?_append_left c]; exact h
 exact ⟨fun b o h=>hk b o (s.sto b o h),fun b o h=>⟨hk b o (s.fra b o h).1,(s.fra b o h).2⟩,fun _=>rfl,(fun _ _ _ f=>by cases f),s.os,s.tape,s.output,s.glo,Nat.le_trans s.drw (Nat.le_add_right _ _)⟩
theorem Air {σ:Av} {ι:Bq} {H:Hp} {F:Av} {W w:World} (s:St σ ι H F W w):Lib.TabIs Go.Proofs.Tryz.prog w "internal/strconv.uint64pow10" .u64 Lib.pow10Tab:=by
 obtain ⟨E,fr,e⟩:=s.glo
 have h:=s.sto _ _ e
 have g:Go.Proofs.Tryz.prog.globalNamed "internal/strconv.uint64pow10" = some 0:=Aiq.m17
 unfold Lib.TabIs World.var?
 rw [g]
 simp only [Option.bind_some,h]
theorem Wc {σ:Av} {ι:Bq} {H:Hp} {x:AV} {vs:Array Value} (h:Kv σ ι H [x] vs):∃v,vs = #[v]/\Conc σ ι H x v:=by
 obtain ⟨h1,h2⟩:=h
 have h1:vs.size=1:=h1
 refine ⟨vs[0],?_,h2 0 x _ rfl (by simp [h1])⟩
 apply Array.ext
 .simp [h1]
 .intro i hi b
  have:i=0:=by omega
  subst this; rfl
theorem Ar6 {a0:Int} {r:ByteArray} (h:Mq a0=some r):As Go.Proofs.Tryz.prog 166 [O .i64 a0] (Du r):=by
 unfold Mq at h
 split at h
 .rename_i hc
  cases h
  refine ⟨⟨_,Tryz.func166,by kernel_rfl,by kernel_rfl⟩,fun σ F W w vs s b=>?_⟩
  obtain ⟨v,rfl,c⟩:=Wc b
  have c:=c.val_inv
  subst c
  have:=Any.strconv_Itoa Aiq a0 hc.1 hc.2 w (Air s)
  refine this.mono ?_
  rintro e w' ⟨rfl,k,os,rfl⟩
  exact ⟨_,σ,rfl,Av.le_refl σ,s.grown k os,.of_val _⟩
 .cases h
theorem Ar7:LaysM.n173 Go.Proofs.Tryz.prog Aip:=by
 constructor
 constructor
 all_goals first | kernel_rfl | (intro w; kernel_rfl)
theorem Ais {σ:Av} {ι:Bq} {H:Hp} {x y:AV} {vs:Array Value} (h:Kv σ ι H [x,y] vs):∃v u,vs = #[v,u]/\Conc σ ι H x v/\Conc σ ι H y u:=by
 obtain ⟨h1,h2⟩:=h
 have h1:vs.size=2:=h1
 refine ⟨vs[0],vs[1],?_,h2 0 x _ rfl (by simp [h1]),h2 1 y _ rfl (by simp [h1])⟩
 apply Array.ext
 .simp [h1]
 .intro i hi b
  rcases (by omega:i=0\/i=1) with h | h
  .subst h; rfl
  .subst h; rfl
theorem Ar8 {a0 a1:Int} {r:ByteArray} (h:Ya a0 a1=some r):As Go.Proofs.Tryz.prog 256 [O .i64 a0,O .i64 a1] (Du r):=by
 unfold Ya at h
 cases hb:a1==10 with
 | false=>rw [hb] at h; cases h
 | true=>
  rw [hb] at h
  have hb:=eq_of_beq hb
  subst hb
  have h:Mq a0=some r:=h
  unfold Mq at h
  split at h
  .rename_i hc
   cases h
   refine ⟨⟨_,Tryz.func256,by kernel_rfl,by kernel_rfl⟩,fun σ F W w vs s b=>?_⟩
   obtain ⟨v,u,rfl,c,hu⟩:=Ais b
   have c:=c.val_inv
   have hu:=hu.val_inv
   subst c; subst hu
   have:=Any.strconv_FormatInt_10 Ar7 a0 hc.1 hc.2 w (Air s)
   refine this.mono ?_
   rintro e w' ⟨rfl,k,os,rfl⟩
   exact ⟨_,σ,rfl,Av.le_refl σ,s.grown k os,.of_val _⟩
  .cases h
theorem Zc (o:Bk) (os:List Bk):hp (o::os) 0=o:=rfl
theorem Ar9 (x:AV) (rest:List Bk):Ct Go.Proofs.Tryz.prog 233 [.loc 0 0] (.cells 199 [.loc 0 0,x]::rest) (.tup []) (.cells 199 [.loc 0 0,x]::rest):=by
 refine ⟨⟨_,Tryz.func233,by kernel_rfl,by kernel_rfl⟩,fun σ F W w ι vs s f=>?_⟩
 obtain ⟨v,rfl,k⟩:=Wc f
 obtain ⟨b,hb,k⟩:=k.loc_inv
 subst k
 have l:=s.obj 0
 unfold Cf at l
 rw [Zc] at l
 obtain ⟨A,C,y,_,_,h3,u,z⟩:=l
 rw [hb] at y; cases y
 have u:C.size=2:=u
 have g:C[0]? = some C[0]:=by simp [u]
 have q:=z 0 (.loc 0 0) C[0] rfl g
 obtain ⟨b2,h,j⟩:=q.loc_inv
 rw [hb] at h; cases h
 have cell:w.cell? ⟨b,0,none⟩=some (.pointer (some ⟨b,0,none⟩)):=by
  rw [Ii h3,g,j]
 refine (Tryz.check_used b w cell).mono ?_
 rintro e w' ⟨rfl,rfl⟩
 exact ⟨_,σ,ι,rfl,Le.refl _ _ _,s,.tup _ _ rfl (fun i c v h1 _=>by cases h1)⟩
theorem Asa (x:AV) (rest:List Bk):Ct Go.Proofs.Tryz.prog 233 [.loc 0 0] (.cells 199 [.val (.pointer none),x]::rest) (.tup []) (.cells 199 [.loc 0 0,x]::rest):=by
 refine ⟨⟨_,Tryz.func233,by kernel_rfl,by kernel_rfl⟩,fun σ F W w ι vs s j=>?_⟩
 obtain ⟨v,rfl,q⟩:=Wc j
 obtain ⟨b,hb,q⟩:=q.loc_inv
 subst q
 have u:=s.obj 0
 unfold Cf at u
 rw [Zc] at u
 obtain ⟨E,C,A,_,_,h3,g,z⟩:=u
 rw [hb] at A; cases A
 have g:C.size=2:=g
 have k:C[0]? = some C[0]:=by simp [g]
 have l:=(z 0 (.val (.pointer none)) C[0] rfl k).val_inv
 have cell:w.cell? ⟨b,0,none⟩=some (.pointer none):=by
  rw [Ii h3,k,l]
 refine (Tryz.check_fresh b w cell (by simp [World.shape?,h3,g]) (by simp [World.frozen?,h3])).mono ?_
 rintro e w' ⟨rfl,rfl⟩
 obtain ⟨s',le⟩:=s.setBox 0 199 [.val (.pointer none),x] [.loc 0 0,x] rfl b hb #[.pointer (some ⟨b,0,none⟩),C[1]] rfl (by
  intro i c v h1 h2
  match i with
  | 0=>simp at h1 h2; subst h1; subst h2; exact .loc 0 0 b hb
  | 1=>simp at h1 h2; subst h1; subst h2; exact z 1 x _ rfl (by simp [g])
  | i+2=>simp at h1)
 have D:A5 (hp (.cells 199 [.val (.pointer none),x]::rest)) 0 (.cells 199 [.loc 0 0,x])=hp (.cells 199 [.loc 0 0,x]::rest):=by
  funext i
  cases i with
  | zero=>rfl
  | succ i=>rfl
 have B:w.setCell ⟨b,0,none⟩ (.pointer (some ⟨b,0,none⟩))=w.setRow b #[.pointer (some ⟨b,0,none⟩),C[1]]:=by
  have h:C.setIfInBounds 0 (.pointer (some ⟨b,0,none⟩)) = #[.pointer (some ⟨b,0,none⟩),C[1]]:=by
   apply Array.ext
   .simp [g]
   .intro i hi y
    match i with
    | 0=>simp
    | 1=>rw [Array.getElem_setIfInBounds_ne _ (by decide)]; rfl
    | i+2=>simp at y; omega
  have f:(w.setCell ⟨b,0,none⟩ (.pointer (some ⟨b,0,none⟩))).heap=(w.setRow b #[.pointer (some ⟨b,0,none⟩),C[1]]).heap:=by
   apply Array.ext_getElem?
   intro i
   simp only [World.setCell,World.setRow,Array.getElem?_modify]
   split
   .rename_i e; subst e
    rw [h3]; simp [h]
   .rfl
  unfold World.setCell World.setRow at f ⊢
  simp only at f
  rw [f]
 rw [D] at s' le
 rw [B]
 exact ⟨_,σ,ι,rfl,le,s',.tup _ _ rfl (fun i c v h1 _=>by cases h1)⟩
theorem Asb {l:List Int} (h:∀x∈l,0<=x/\x<256) {j:Nat} {x:UInt8} (hx:(Dy l)[j]? = some x):l[j]? = some (x.toNat:Int):=by
 simp only [Dy,List.getElem?_map,Option.map_eq_some_iff] at hx
 obtain ⟨y,hy,rfl⟩:=hx
 have b:=h y (List.mem_of_getElem? hy)
 rw [hy]
 congr 1
 have:y.toNat<256:=by omega
 simp only [UInt8.toNat_ofNat']
 omega
theorem St.kill {σ:Av} {ι:Bq} {H:Hp} {F:Av} {W w:World} (s:St σ ι H F W w) (h:Nat):St σ ι (A5 H h .dead) F W w/\Le σ ι H σ ι (A5 H h .dead):=by
 have le:Le σ ι H σ ι (A5 H h .dead):=by
  have:=Le.upd (ι:=ι) (H:=H) (Av.le_refl σ) h (ι h) .dead ⟨fun _ e=>e,(fun _ e=>by cases e),(fun _ k j i e=>by cases e)⟩
  rwa [G0] at this
 obtain ⟨f1,f2⟩:=s.fresh
 refine ⟨s.touch h w.heap.size (fun _ _=>rfl) (fun x e=>Cx _ _ e) le (fun _ _=>rfl) (fun _ _=>rfl) (fun o g=>by rw [f1] at g; cases g) ?_ f2 ?_ ?_ rfl rfl rfl,le⟩
 .intro x _ c f
  have:=(s.block c f).1
  omega
 .intro b c
  rw [Ca] at c; cases c
 .unfold Cf
  rw [Ca]; trivial
theorem St.fbox {σ:Av} {ι:Bq} {H:Hp} {F:Av} {W w:World} (s0:St σ ι H F W w) {T:TypeId} {p x:AV} {s:ByteArray} {b:Nat} {C:Array Value} (f:H 0 = .cells T [p,x]) (hb:ι 0 = .box b) (h3:w.heap[b]? = some (.cells C T (0,0)))
  (hc:∀v,C[1]? = some v->CC σ (.fb s) v):St σ ι (A5 H 0 (.cells T [p,.fb s])) F W w/\Le σ ι H σ ι (A5 H 0 (.cells T [p,.fb s])):=by
 have g:=s0.obj 0
 unfold Cf at g
 rw [f] at g
 obtain ⟨u,z,k,g1,g2,g3,g4,g5⟩:=g
 rw [hb] at k; cases k
 rw [h3] at g3; cases g3
 have le:Le σ ι H σ ι (A5 H 0 (.cells T [p,.fb s])):=by
  have:=Le.upd (ι:=ι) (H:=H) (Av.le_refl σ) 0 (ι 0) (.cells T [p,.fb s]) (by rw [f]; exact ⟨fun _ e=>e,(fun _ e=>by cases e),(fun _ _ _ _ e=>by cases e)⟩)
  rwa [G0] at this
 refine ⟨s0.touch 0 b (fun _ _=>rfl) (fun x e=>Cx _ _ e) le (fun x e=>rfl) (fun _ _=>rfl) (fun o e=>by rw [g1] at e; cases e) ?_ g2 ?_ ?_ rfl rfl rfl,le⟩
 .intro x e l h
  exact e (s0.inj x 0 b l (by rw [f]; rfl) h (by rw [hb]; rfl))
 .intro q _ j
  exact .inr ⟨by rw [f]; rfl,j⟩
 .unfold Cf
  rw [Ca]
  refine ⟨b,C,hb,g1,g2,h3,by simpa using g4,fun i c v x y=>?_⟩
  match i with
  | 0=>exact (g5 0 c v x y).mono le
  | 1=>cases x; exact .cc (hc v y)
  | i+2=>cases x
theorem Asd {p:AV}:Ct Go.Proofs.Tryz.prog 168 [.loc 0 0] [.cells 199 [p,.arr 1 0 0 0],.rows 5 1 []] (Du .empty) [.cells 199 [p,.fb .empty],.dead]:=by
 refine ⟨⟨_,Tryz.func168,by kernel_rfl,by kernel_rfl⟩,fun σ F W w ι vs s z=>?_⟩
 obtain ⟨v,rfl,j⟩:=Wc z
 obtain ⟨b,hb,j⟩:=j.loc_inv
 subst j
 have M:=s.obj 0
 unfold Cf at M
 rw [Zc] at M
 obtain ⟨b',C,Y,_,_,h3,B,h5⟩:=M
 rw [hb] at Y; cases Y
 have B:C.size=2:=B
 have hC:C = #[C[0],C[1]]:=by
  apply Array.ext
  .simp [B]
  .intro i hi N
   match i with
   | 0=>rfl
   | 1=>rfl
   | i+2=>simp at N; omega
 have R:=h5 1 (.arr 1 0 0 0) C[1] rfl (by simp [B])
 have y:hp [Bk.cells 199 [p,.arr 1 0 0 0],.rows 5 1 []] 1 = .rows 5 1 []:=rfl
 have c:=R.arr_inv y (by simp)
 have hor:=s.obj 1
 unfold Cf at hor
 rw [y] at hor
 obtain ⟨_,V,hor⟩:=hor
 have eH:A5 (A5 (hp [Bk.cells 199 [p,.arr 1 0 0 0],.rows 5 1 []]) 1 .dead) 0 (.cells 199 [p,.fb .empty])=hp [Bk.cells 199 [p,.fb .empty],.dead]:=by
  funext i
  match i with
  | 0=>rfl
  | 1=>rfl
  | i+2=>rfl
 have go:∀(a q:Option Addr) (cap:Nat) (A:Av) (k:World),C[1] = .slice a 0 cap->k.heap[b]? = w.heap[b]?->(Builtin.unsafeSliceData_ #[197] 271 #[.slice a 0 cap]).run Go.Proofs.Tryz.prog w.drew = .ok (.pointer q) k ->
   Le σ ι (hp [Bk.cells 199 [p,.arr 1 0 0 0],.rows 5 1 []]) A ι (hp [Bk.cells 199 [p,.arr 1 0 0 0],.rows 5 1 []])->St A ι (hp [Bk.cells 199 [p,.arr 1 0 0 0],.rows 5 1 []]) F W k ->
   Calls Go.Proofs.Tryz.prog 168 #[.pointer (some ⟨b,0,none⟩)] w fun e w'=>∃v E G,e = .returned v/\Le σ ι (hp [Bk.cells 199 [p,.arr 1 0 0 0],.rows 5 1 []]) E G (hp [Bk.cells 199 [p,.fb .empty],.dead])/\St E G (hp [Bk.cells 199 [p,.fb .empty],.dead]) F W w'/\Conc E G (hp [Bk.cells 199 [p,.fb .empty],.dead]) (Du .empty) v:=by
  intro a q cap A k f x S le I
  have h:w.heap[b]? = some (.cells #[C[0],.slice a 0 cap] 199 (0,0)):=by
   rw [h3]; congr 1; rw [<-f,<-hC]
  refine (Tryz.builder_str0 b cap C[0] a q w k h (x.trans h) S).mono ?_
  rintro e w' ⟨rfl,rfl⟩
  obtain ⟨Z,J⟩:=I.kill 1
  obtain ⟨U,u⟩:=Z.fbox (b:=b) (C:=#[C[0],.slice a 0 cap]) (s:=.empty) (by rfl) hb ((x.trans h)) (fun v j=>by simp at j; subst j; exact .fbn _ _ _ rfl)
  rw [eH] at U u
  exact ⟨_,A,ι,rfl,(le.trans J).trans u,U,.of_val _⟩
 rcases hor with ⟨hi,_⟩ | ⟨g,l,D,hg,g1,g2,g3,g4,g5,g6⟩
 .unfold Fs at c
  rw [hi] at c
  exact go none none 0 σ w.drew c.1 rfl rfl (Le.refl _ _ _) (s.drew _)
 .unfold Fs at c
  rw [hg] at c
  simp only [Nat.zero_mul,Nat.zero_add,Nat.sub_zero] at c
  obtain ⟨_,f⟩:=c
  by_cases ht:l=0
  .subst ht
   obtain ⟨I,L⟩:=(s.drew (w.drawn+1)).newFrozen (.view ⟨g,0,none⟩ 5)
   have X:=(Array.getElem?_eq_some_iff.1 h3).1
   refine go _ _ 0 _ (w.drew.alloc (.view ⟨g,0,none⟩ 5)) f ?_ (Lib.run_unsafeSliceData_zero _ _ _ 5 Go.Proofs.Tryz.underlying271 _ _ (5,D.size) (by
    have:w.drew.heap[g]? = some (.cells D 5 (0,0)):=g3
    simp [World.shape?,this])) L I
   show (w.heap.push _)[b]? = _
   rw [Array.getElem?_push,if_neg (by omega)]
  .exact go _ _ l σ w.drew f rfl (Lib.run_unsafeSliceData_row _ _ _ _ _ _ ht) (Le.refl _ _ _) (s.drew _)
theorem Ait {p:AV} {l:List Int} {r:ByteArray} (h:Ue l=some r):Ct Go.Proofs.Tryz.prog 168 [.loc 0 0] [.cells 199 [p,.arr 1 l.length 0 l.length],.rows 5 1 (List.map (O .u8) l)] (Du r) [.cells 199 [p,.fb r],.dead]:=by
 unfold Ue at h
 split at h
 .rename_i aa
  cases h
  by_cases u:l = []
  .subst u; exact Asd
  refine ⟨⟨_,Tryz.func168,by kernel_rfl,by kernel_rfl⟩,fun σ F W w ι vs s S=>?_⟩
  obtain ⟨v,rfl,A⟩:=Wc S
  obtain ⟨b,hb,A⟩:=A.loc_inv
  subst A
  have B:=s.obj 0
  unfold Cf at B
  rw [Zc] at B
  obtain ⟨b',C,e1,_,_,h3,Y,h5⟩:=B
  rw [hb] at e1; cases e1
  have Y:C.size=2:=Y
  have hC:C = #[C[0],C[1]]:=by
   apply Array.ext
   .simp [Y]
   .intro i hi a7
    match i with
    | 0=>rfl
    | 1=>rfl
    | i+2=>simp at a7; omega
  have a8:=h5 1 (.arr 1 l.length 0 l.length) C[1] rfl (by simp [Y])
  have N:hp [Bk.cells 199 [p,.arr 1 l.length 0 l.length],.rows 5 1 (List.map (O .u8) l)] 1 = .rows 5 1 (List.map (O .u8) l):=rfl
  have y:=a8.arr_inv N (by simp)
  have hor:=s.obj 1
  unfold Cf at hor
  rw [N] at hor
  obtain ⟨_,M,hor⟩:=hor
  rw [List.length_map] at M
  rcases hor with ⟨_,J⟩ | ⟨g,q,D,hg,g1,g2,g3,g4,g5,g6⟩
  .exact (u (by simpa using J)).elim
  .rw [List.length_map] at g5
   unfold Fs at y
   rw [hg] at y
   simp only [Nat.zero_mul,Nat.zero_add,Nat.sub_zero] at y
   obtain ⟨ht,I⟩:=y
   have c:(Dy l).length=l.length:=by simp [Dy]
   have f:∀(j:Nat) (x:UInt8),(Dy l)[j]? = some x->D[j]? = some (Value.int .u8 x.toNat):=by
    intro j x hx
    have hj:=Asb aa hx
    obtain ⟨gg,q1,q2,q3⟩:=g6
    have G:(List.map (O .u8) l)[j]? = some (O .u8 x.toNat):=by rw [List.getElem?_map,hj]; rfl
    have a1:j<(List.map (O .u8) l).length:=(List.getElem?_eq_some_iff.1 G).1
    have q4:=q3 j 0 a1 (by omega)
    have q5:=(q2 j _ 0 _ G rfl).1
    have:gg j 0=Value.int .u8 x.toNat:=by
     generalize gg j 0=z at q5
     cases q5; rfl
    rw [this] at q4
    simpa using q4
   have U:w.heap[b]? = some (.cells #[C[0],.slice (some ⟨g,0,none⟩) (Dy l).length q] 199 (0,0)):=by
    rw [h3]; congr 1; rw [c]
    have:C[1] = .slice (some ⟨g,0,none⟩) l.length q:=I
    rw [<-this,<-hC]
   have V:l.length<=D.size:=by rw [g4]; omega
   have call:=Tryz.builder_str b g q C[0] D (Dy l) w (by intro e; apply u; rw [<-List.length_eq_zero_iff,<-c,e]; rfl) U g3 (by rw [c]; exact g5) (by rw [c]; exact V) (by rw [c]; omega) f
   refine call.mono ?_
   rintro e w' ⟨rfl,rfl⟩
   have L:(Dy l).length≠0:=by rw [c]; simpa using u
   have a6:σ.le (A5 σ g (some (.cells D 5 (0,(Dy l).length)))):=by
    intro b' o' hb'
    rw [Cx _ _ (by intro e; subst e; rw [g1] at hb'; cases hb')]; exact hb'
   have Z:(w.drew.freeze ⟨g,0,none⟩ (Dy l).length).heap[g]? = some (.cells D 5 (0,(Dy l).length)):=by
    unfold World.freeze
    rw [if_neg L]
    simp only [Array.getElem?_modify,if_true]
    have:w.drew.heap[g]? = some (.cells D 5 (0,0)):=g3
    rw [this]
    simp
   have R:∀b,b≠g->(w.drew.freeze ⟨g,0,none⟩ (Dy l).length).heap[b]? = w.heap[b]?:=by
    intro b hb
    unfold World.freeze
    split
    .rfl
    .simp only [Array.getElem?_modify]
     rw [if_neg (Ne.symm hb)]; rfl
   have le:Le σ ι (hp [Bk.cells 199 [p,.arr 1 l.length 0 l.length],.rows 5 1 (List.map (O .u8) l)]) (A5 σ g (some (.cells D 5 (0,(Dy l).length)))) ι (A5 (hp [Bk.cells 199 [p,.arr 1 l.length 0 l.length],.rows 5 1 (List.map (O .u8) l)]) 1 .dead):=by
    have:=Le.upd (ι:=ι) (H:=hp [Bk.cells 199 [p,.arr 1 l.length 0 l.length],.rows 5 1 (List.map (O .u8) l)]) a6 1 (ι 1) .dead ⟨fun _ e=>e,(fun _ e=>by cases e),(fun _ E1 ae ad e=>by cases e)⟩
    rwa [G0] at this
   have eH:A5 (A5 (hp [Bk.cells 199 [p,.arr 1 l.length 0 l.length],.rows 5 1 (List.map (O .u8) l)]) 1 .dead) 0 (.cells 199 [p,.fb ⟨(Dy l).toArray⟩])=hp [Bk.cells 199 [p,.fb ⟨(Dy l).toArray⟩],.dead]:=by
    funext i
    match i with
    | 0=>rfl
    | 1=>rfl
    | i+2=>rfl
   have ac:b≠g:=by
    intro e
    have:=s.inj 0 1 g rfl rfl (by rw [hb,e]; rfl) (by rw [hg]; rfl)
    cases this
   have s2:St (A5 σ g (some (.cells D 5 (0,(Dy l).length)))) ι (A5 (hp [Bk.cells 199 [p,.arr 1 l.length 0 l.length],.rows 5 1 (List.map (O .u8) l)]) 1 .dead) F W (w.drew.freeze ⟨g,0,none⟩ (Dy l).length):=by
    refine s.touch (hdrw:=by unfold World.freeze; split <;> exact Nat.le_succ _) 1 g (fun _ _=>rfl) (fun x e=>Cx _ _ e) le R (fun x e=>Cx _ _ e) (fun o B=>by rw [Ca] at B; cases B; exact Z) ?_ g2 ?_ ?_ ?_ ?_ ?_
    .intro x hx X ab
     exact hx (s.inj x 1 g X rfl ab (by rw [hg]; rfl))
    .intro b0 X
     rw [Ca] at X; cases X
    .unfold Cf
     rw [Ca]; trivial
    .unfold World.freeze; split <;> rfl
    .unfold World.freeze; split <;> rfl
    .unfold World.freeze; split <;> rfl
   obtain ⟨s3,E⟩:=s2.fbox (b:=b) (C:=#[C[0],.slice (some ⟨g,0,none⟩) (Dy l).length q]) (s:=⟨(Dy l).toArray⟩) (by rfl) hb ((R b ac).trans U) (fun v A=>by
    simp only [List.getElem?_toArray,List.getElem?_cons_succ,List.getElem?_cons_zero,Option.some.injEq] at A
    subst A
    have k:(ByteArray.mk (Dy l).toArray).size=(Dy l).length:=by simp [ByteArray.size]
    rw [<-k]
    refine .fb _ g q D (by rw [Ca,k]) (by rw [k]; exact L) (by rw [k,c]; omega) (by rw [k,c]; exact V) (by rw [k,c]; omega) (fun j x hx=>f j x (by simpa using hx)))
   rw [eH] at s3 E
   exact ⟨_,_,ι,rfl,le.trans E,s3,.of_val _⟩
 .cases h
end Go.Ab
namespace Go.Ab
open Go Go.Proofs
set_option linter.unusedVariables false
class OK {α:Type} (o:Option α) (G:outParam (α->Prop)):Prop where
 ok:∀{r:α},o=some r->G r
theorem okz {α:Type} {G:α->Prop}:OK (none:Option α) G:=⟨fun h=>by cases h⟩
section
variable {P:Program} {C:Cfg} {Qn:Nat->Bp->Hp->Prop} {Qe:Nat->Nat->Bp->Hp->Prop} {Qr:Nat->Bp->Hp->Prop} {n:Nat} {e:Bp} {H:Hp} {β:Type} {r:β}
variable {T:Cp} {an:Nat->Ann} {nl:Nat->List (Nat×Nat)} {ops:Array Oper} {o:Oper} {os:List Oper} {acc:G3} {K:Nat->Bp->Hp->G3->Prop}
theorem Fx {p:Nat×Bool} {s:Nat} {b:Bool} {m m':Option β} (h:(bif b then m else m')=some r) (h1:b=true->m=some r->Eg (D7 P T an nl ops (o::os) n (A5 e s (.val (.bool true))) H acc K))
  (h2:b=false->m'=some r->Eg (D7 P T an nl ops (o::os) n (A5 e s (.val (.bool false))) H acc K)) (hg:o.guard=some p:=by exact rfl) (hs:(ops[p.1]?).bind (·.dst)=some s:=by exact rfl) (hb:e s = .val (.bool b):=by exact rfl):Eg (D7 P T an nl ops (o::os) n e H acc K):=Arm h h1 h2 hb
theorem nw {c:Code} (k:wc P C c Qn Qe Qr n e H):Eg (wc P C c Qn Qe Qr n e H):=.mk k
theorem Ck {S E:Type} {o:S⊕E} {J:E->Option β} {x:E} (h:some (Sum.inr x)=some o) (hx:∀x,Sum.inr x=o->J x=some r:=by assumption):J x=some r:=hx x (Option.some.inj h)
theorem lpj {S:Type} {o:S} {J:S->Option β} {x:S} (h:some x=some o) (hx:∀y,y=o->J y=some r:=by assumption):J x=some r:=hx x (Option.some.inj h)
theorem lpn {S E:Type} {o:S⊕E} {s':S} {K:Nat->Bp->Hp->Prop} {iv:S->List (Nat×AV)} {hv:S->List (Nat×Bk)} {inv:S->Prop} {n0:Nat} {H0:Hp} (h:some (Sum.inl s')=some o) (hn:∀s' n' e' H',Sum.inl s'=o->F2 e' (iv s')->F3 H' (Cb H0 (hv s')) n0 n0->inv s'->K n' e' H':=by assumption)
  (hs:F2 e (iv s'):=by (repeat refine ⟨rfl,?_⟩); exact trivial) (hh:F3 H (Cb H0 (hv s')) n0 n0:=by (repeat refine ⟨⟨rfl,rfl⟩,?_⟩); exact trivial) (hi:inv s':=by first | trivial | exact rfl | ((repeat refine Dz ?_ _ _); first | exact rfl | assumption)):K n e H:=hn s' n e H (Option.some.inj h) hs hh hi
theorem jnn {S E:Type} {o x:E} {s:S} {J:S->Prop} {K:Nat->Bp->Hp->Prop} {iv:S->List (Nat×AV)} {hv:S->List (Nat×Bk)} {n0:Nat} {H0:Hp} (h:some x=some o) (hn:∀s n' e' H',J s->F2 e' (iv s)->F3 H' (Cb H0 (hv s)) n0 n0->K n' e' H':=by assumption) (hJ:J s:=by exact Option.some.inj h)
  (hs:F2 e (iv s):=by (repeat refine ⟨rfl,?_⟩); exact trivial) (hh:F3 H (Cb H0 (hv s)) n0 n0:=by (repeat refine ⟨⟨rfl,rfl⟩,?_⟩); exact trivial):K n e H:=hn s n e H hJ hs hh
theorem Bl {α:Type} {o:Option α} {m:α->Option β} {f:FuncId} {args:List AV} {G:α->Prop} {ra:α->AV} {K:Eff->Nat->Prop} (h:o.bind m=some r) [i:OK o G] (k:∀v,m v=some r->K ⟨ra v,[],[]⟩ n) (hG:∀v,G v->As P f args (ra v):=by exact fun _ h=>h) (hf:args.all AV.free=true:=by exact rfl):Hg P n H f args K :=
 Ee h fun v hv h=>Hg.mk _ (hG v (i.ok hv)) hf (k v h)
theorem Aiu {α:Type} {o:Option α} {m:α->Option β} {f:FuncId} {args args':List AV} {G:α->Prop} {ra:α->AV} {K:Eff->Nat->Prop} (h:o.bind m=some r) [i:OK o G] (k:∀v,m v=some r->K ⟨ra v,[],[]⟩ n) (hG:∀v,G v->As P f args' (ra v):=by exact fun _ h=>h) (hs:Ns args args':=by (repeat first | refine ⟨Sub.refl _,?_⟩ | refine ⟨Sub.nil _,?_⟩); exact trivial) (hf:args.all AV.free=true:=by exact rfl):Hg P n H f args K :=
 Ee h fun v hv h=>Hg.mk _ (As.sub (hG v (i.ok hv)) hs (Sub.refl _)) hf (k v h)
theorem Bm {α:Type} {o:Option α} {m:α->Option β} {f:FuncId} {args largs:List AV} {G:α->Prop} {ra:α->AV} {hs:List Bk} {hs':α->List Bk} {K:Eff->Nat->Prop} (l:List Nat) (h:o.bind m=some r) [i:OK o G] (k:∀v,m v=some r->K ⟨ren (Ds n l) (ra v),wrs (Ds n l) 0 hs++B3 (Ds n l) l.length ((hs' v).length-l.length),wrs (Ds n l) 0 (hs' v)⟩ (n+((hs' v).length-l.length)))
  (hG:∀v,G v->Ct P f largs hs (ra v) (hs' v):=by exact fun _ h=>h) (ha:largs.map (ren (Ds n l))=args:=by exact rfl) (ok:∀v,Rx n l largs hs (ra v) (hs' v)=true:=by exact fun _=>rfl) (hh:Pk H (wrs (Ds n l) 0 hs):=by (repeat refine ⟨rfl,?_⟩); exact trivial):Hg P n H f args K :=
 Ee h fun v hv h=>Hg.act l largs hs (ra v) (hs' v) (hG v (i.ok hv)) ha (ok v) hh (k v h)
theorem Cg {α:Type} {l:List α} {f:α->AV} {ys:List AV} {i:Int} {m:α->Option β} {K:Nat->AV->Prop} (h:(Af l i).bind m=some r) (k:∀(n:Nat) (x:α),i=n->l[n]? = some x->m x=some r->K n (f x)) (he:ys=l.map f:=by first | exact rfl | exact Jf _ | exact Kg _):T5 ys i K:=Ah6 he h k
theorem Hi {α:Type} {l:List α} {f:α->AV} {ys:List AV} {i:Int} {m:α->Option β} {K:Nat->Prop} {len kk:Nat} (h:(Af l i).bind m=some r) (k:∀(n:Nat) (x:α),i=n->l[n]? = some x->m x=some r->K n) (he:ys=l.map f:=by first | exact rfl | exact Jf _ | exact Kg _) (hl:len=l.length:=by first | exact rfl | assumption | exact Jt (by assumption) | ((repeat refine Dz ?_ _ _); first | exact rfl | assumption)) (hk:kk=l.length:=by first | exact rfl | assumption | exact Jt (by assumption) | ((repeat refine Dz ?_ _ _); first | exact rfl | assumption)):Pl len kk ys i K:=Arn he hl hk h k
theorem G7 {α:Type} {l:List α} {f:α->AV} {ys:List AV} {i:Int} {m:α->Option β} {K:Nat->Prop} {off len kk:Nat} (h:(D5 l off len i).bind m=some r) (k:∀(n:Nat) (x:α),i=n->l[off+n]? = some x->m x=some r->K n) (he:ys=l.map f:=by first | exact rfl | exact Jf _ | exact Kg _) (hk:kk=l.length:=by first | exact rfl | assumption | exact Jt (by assumption) | ((repeat refine Dz ?_ _ _); first | exact rfl | assumption)):Pl len kk ys i K:=Aro he hk h k
theorem Ot {α:Type} {l:List α} {f:α->AV} {ys:List AV} {K:Int->Prop} (k:K (l.length:Int)) (he:ys=l.map f:=by first | exact rfl | exact Jf _ | exact Kg _):Kx ys K:=Aib he k
theorem Ou {α:Type} {l:List α} {f:α->AV} {ys:List AV} {kk:Nat} {K:Prop} (k:K) (he:ys=l.map f:=by first | exact rfl | exact Jf _ | exact Kg _) (hk:kk=l.length:=by first | exact rfl | assumption | exact Jt (by assumption) | ((repeat refine Dz ?_ _ _); first | exact rfl | assumption)):Fm kk ys K:=Arv he hk k
theorem Ov {K:Prop} (k:K):Fm 0 [] K:=.mk rfl k
theorem Ow {α:Type} {l:List α} {f:α->AV} {ys:List AV} {n i kk:Nat} {x:α} {K:AV->Prop} (k:K (f x)) (he:ys=l.map f:=by first | exact rfl | exact Jf _ | exact Kg _) (hk:kk=l.length:=by first | exact rfl | assumption | exact Jt (by assumption) | ((repeat refine Dz ?_ _ _); first | exact rfl | assumption)) (hi:i=n/\l[n]? = some x:=by first | exact ⟨Nat.zero_add _,by assumption⟩ | exact ⟨rfl,by assumption⟩):J5 kk i ys K:=Arp he hk hi.1 hi.2 k
theorem Aiv {α:Type} {l:List α} {f:α->AV} {ys:List AV} {n i:Nat} {j:Int} {x:α} {p:AV} {K:List AV->Prop} (k:K ((Cd l j x).map f)) (he:ys=l.map f:=by first | exact rfl | exact Jf _ | exact Kg _) (hp:p=f x:=by exact rfl) (hi:i=n/\j=(n:Int):=by first | exact ⟨Nat.zero_add _,by assumption⟩ | exact ⟨rfl,by assumption⟩ | exact ⟨rfl,Px _ (by assumption)⟩):T7 ys i p K:=Gw he hp hi.1 hi.2 k
theorem Kh {α:Type} {l ys:List α} {f:α->AV} {xs zs:List AV} {b kk len:Nat} {m:List α->Option β} {K:List AV->Nat->Prop} {KP:List AV->Nat->Nat->Prop} (h:(B1 b l ys).bind m=some r) (k:∀o:List α,m o=some r->K (o.map f) o.length) (he:xs=l.map f/\zs=ys.map f:=by first | exact ⟨rfl,rfl⟩ | (refine ⟨?_,?_⟩; rotate_left; exact rfl; exact rfl)) (hk:kk=l.length:=by first | exact rfl | assumption | exact Jt (by assumption) | ((repeat refine Dz ?_ _ _); first | exact rfl | assumption)) (hl:len=l.length:=by first | exact rfl | assumption | exact Jt (by assumption) | ((repeat refine Dz ?_ _ _); first | exact rfl | assumption)):Kw xs zs kk len b K KP:=Acw he.1 he.2 hk hl h k
theorem Aiw {l:List Int} {s:ByteArray} {xs:List AV} {b kk len:Nat} {m:List Int->Option β} {K:List AV->Nat->Prop} {KP:List AV->Nat->Nat->Prop} (h:(B1 b l (K2 s)).bind m=some r) (k:∀o:List Int,m o=some r->K (o.map fun n=>.val (.int .u8 n)) o.length) (he:xs=l.map fun n=>.val (.int .u8 n):=by exact rfl) (hk:kk=l.length:=by first | exact rfl | assumption | exact Jt (by assumption) | ((repeat refine Dz ?_ _ _); first | exact rfl | assumption)) (hl:len=l.length:=by first | exact rfl | assumption | exact Jt (by assumption) | ((repeat refine Dz ?_ _ _); first | exact rfl | assumption)):Kw xs (Hv s) kk len b K KP:=Arr he hk hl h k
class GL {α:Type} (g:List α->List AV) (f:outParam (α->AV)):Prop where
 eq:∀l,g l=l.map f
instance:GL Bv Dm:=⟨Jf⟩
instance:GL G5 Ez:=⟨Kg⟩
theorem Aix {α:Type} {g:List α->List AV} {f:α->AV} [i:GL g f] {l ys:List α} {zs:List AV} {b kk len:Nat} {m:List α->Option β} {K:List AV->Nat->Prop} {KP:List AV->Nat->Nat->Prop} (h:(B1 b l ys).bind m=some r) (k:∀o:List α,m o=some r->K (g o) o.length) (hz:zs=ys.map f:=by first | exact rfl | exact GL.eq _) (hk:kk=l.length:=by first | exact rfl | assumption | exact Jt (by assumption) | ((repeat refine Dz ?_ _ _); first | exact rfl | assumption)) (hl:len=l.length:=by first | exact rfl | assumption | exact Jt (by assumption) | ((repeat refine Dz ?_ _ _); first | exact rfl | assumption)):Kw (g l) zs kk len b K KP:=Ars i.eq (i.eq l) hz hk hl h k
theorem Adu {α:Type} {ys:List α} {f:α->AV} {zs:List AV} {b:Nat} {m:List α->Option β} {K:List AV->Nat->Prop} (h:(B1 b [] ys).bind m=some r) (k:∀o:List α,m o=some r->K (o.map f) o.length) (hz:zs=ys.map f:=by exact rfl):Pn zs b K:=Aia hz h k
theorem Aiy {α:Type} {g:List α->List AV} {f:α->AV} [i:GL g f] {ys:List α} {zs:List AV} {b:Nat} {m:List α->Option β} {K:List AV->Nat->Prop} (h:(B1 b [] ys).bind m=some r) (k:∀o:List α,m o=some r->K (g o) o.length) (hz:zs=g ys:=by exact rfl):Pn zs b K:=Art i.eq (hz.trans (i.eq ys)) h k
theorem Gx {α:Type} {z:α} {f:α->AV} {za:AV} {len cap:Int} {b:Nat} {m:List α->Option β} {K:Nat->List AV->Prop} (h:(Fv b len cap z).bind m=some r) (k:∀o:List α,m o=some r->K o.length (o.map f)) (hz:za=f z:=by first | exact (rfl:_=O _ _) | exact (rfl:_=An _) | exact rfl):T6 len cap b za K:=Aru hz h k
theorem Adv {α:Type} {l:List α} {f:α->AV} {ys:List AV} {lo hi:Int} {m:List α->Option β} {K:List AV->Prop} (h:(F7 l lo hi).bind m=some r) (k:∀l':List α,m l'=some r->K (l'.map f)) (he:ys=l.map f:=by first | exact rfl | exact Jf _ | exact Kg _):Pm ys lo hi K:=Ah9 he h k
theorem Aiz {α:Type} {l:List α} {f:α->AV} {ys:List AV} {lo:Int} {m:List α->Option β} {K:List AV->Prop} (h:(F7 l lo l.length).bind m=some r) (k:∀l':List α,m l'=some r->K (l'.map f)) (he:ys=l.map f:=by first | exact rfl | exact Jf _ | exact Kg _):Pm ys lo ys.length K:=Arq he h k
theorem Hj {S E:Type} {step:S->Option (S⊕E)} {s0:S} {J:E->Option β} {b:Code} (h:(Am step s0).bind J=some r) (iv:S->List (Nat×AV)) (hv:S->List (Nat×Bk)) (inv:S->Prop)
  (body:∀(s:S) (u:Nat->Value) (K:Nat->Bp->Hp->Prop) (o:S⊕E),step s=some o->(∀x,.inr x=o->J x=some r)->(∀s' n' e' H',.inl s'=o->F2 e' (iv s')->F3 H' (Cb H (hv s')) n n->inv s'->K n' e' H')->inv s ->
   wc P C b K Qe Qr n (I5 (Em b) e u (iv s)) (Cb H (hv s)))
  (hb:∀s,Jr n (iv s) (hv s)=true:=by exact fun _=>rfl) (hs:F2 e (iv s0):=by (repeat refine ⟨rfl,?_⟩); exact trivial) (hh:F3 H (Cb H (hv s0)) n n:=by (repeat refine ⟨⟨rfl,rfl⟩,?_⟩); exact trivial) (h0:inv s0:=by first | exact rfl | assumption | exact Jt (by assumption) | ((repeat refine Dz ?_ _ _); first | exact rfl | assumption)):wc P C (.loop b) Qn Qe Qr n e H:=Aij h iv hv inv hb hs hh h0 body
theorem A6 {S E:Type} {step:S->Option (S⊕E)} {s0:S} {J:E->Option β} {b:Code} (h:(Am step s0).bind J=some r) (iv:S->List (Nat×AV)) (hv:S->List (Nat×Bk))
  (body:∀(s:S) (u:Nat->Value) (K:Nat->Bp->Hp->Prop) (o:S⊕E),step s=some o->(∀x,.inr x=o->J x=some r)->(∀s' n' e' H',.inl s'=o->F2 e' (iv s')->F3 H' (Cb H (hv s')) n n->True->K n' e' H') ->
   wc P C b K Qe Qr n (I5 (Em b) e u (iv s)) (Cb H (hv s)))
  (hb:∀s,Jr n (iv s) (hv s)=true:=by exact fun _=>rfl) (hs:F2 e (iv s0):=by (repeat refine ⟨rfl,?_⟩); exact trivial) (hh:F3 H (Cb H (hv s0)) n n:=by (repeat refine ⟨⟨rfl,rfl⟩,?_⟩); exact trivial):wc P C (.loop b) Qn Qe Qr n e H:=Aij h iv hv (fun _=>True) hb hs hh trivial fun s u K o h1 h2 h3 _=>body s u K o h1 h2 h3
theorem Wd {S S':Type} {c:Code} {o:Option S'} {m:S'->Option β} (inj:S->S') (h:o.bind m=some r) (iv:S->List (Nat×AV)) (hv:S->List (Nat×Bk))
  (k1:∀x,o=some x->∀(K:Nat->Bp->Hp->Prop),(∀s n' e' H',inj s=x->F2 e' (iv s)->F3 H' (Cb H (hv s)) n n->K n' e' H')->(∀y,y=x->m y=some r)->wc P C c K Qe Qr n e H)
  (k2:∀(s:S) (u:Nat->Value),m (inj s)=some r->Qn n (I5 (Em c) e u (iv s)) (Cb H (hv s))) (hb:∀s,Jr n (iv s) (hv s)=true:=by exact fun _=>rfl):wc P C c Qn Qe Qr n e H :=
 Mr h fun x hx hj=>Lx (fun s=>inj s=x) iv hv hb (fun K hK=>k1 x hx K hK hj) fun s u hs=>k2 s u (hj _ hs)
theorem Bu {S:Type} {c:Code} {o:Option S} {m:S->Option β} (h:o.bind m=some r) (iv:S->List (Nat×AV)) (hv:S->List (Nat×Bk))
  (k1:∀x,o=some x->∀(K:Nat->Bp->Hp->Prop),(∀s n' e' H',s=x->F2 e' (iv s)->F3 H' (Cb H (hv s)) n n->K n' e' H')->(∀y,y=x->m y=some r)->wc P C c K Qe Qr n e H)
  (k2:∀(s:S) (u:Nat->Value),m s=some r->Qn n (I5 (Em c) e u (iv s)) (Cb H (hv s))) (hb:∀s,Jr n (iv s) (hv s)=true:=by exact fun _=>rfl):wc P C c Qn Qe Qr n e H:=Wd (fun s=>s) h iv hv k1 k2 hb
abbrev C0:Cfg:={T:=B8,an:=fun _=>.ask}
theorem pw {f:FuncId} {fn:Func} {c:Code} {args:List AV} {r:AV} (C:Cfg) (hf:Go.Proofs.Tryz.prog.funcs[f]? = some fn) (hv:wc Go.Proofs.Tryz.prog C c (fun _ e H=>Pq C.T fn.results.toList (· = r) e H) (fun _ _ _ _=>False) (fun _ e H=>Pq C.T fn.results.toList (· = r) e H) 0 (R5 args) H0)
   (hT:C.T=B8:=by exact rfl) (hb:fn.body=some c:=by exact rfl) (hname:(fn.name == "runtime.NumGoroutine")=false:=by kernel_rfl) (hok:R6 fn c args.length=true:=by kernel_rfl) (hfree:r.free=true:=by exact rfl):As Go.Proofs.Tryz.prog f args r:=Arw (by rw [hT]; exact Aim) Ub hf hb hname hok hfree hv
theorem aw {f:FuncId} {fn:Func} {c:Code} {args:List AV} {r:AV} {hs hs':List Bk} (C:Cfg) (fz:Bool) (hf:Go.Proofs.Tryz.prog.funcs[f]? = some fn) (hv:wc Go.Proofs.Tryz.prog C c (fun _ e H=>Pt C.T fz fn.results.toList r hs' e H) (fun _ _ _ _=>False) (fun _ e H=>Pt C.T fz fn.results.toList r hs' e H) hs.length (R5 args) (hp hs))
   (hT:C.T=B8:=by exact rfl) (hb:fn.body=some c:=by exact rfl) (hname:(fn.name == "runtime.NumGoroutine")=false:=by kernel_rfl) (hok:R6 fn c args.length=true:=by kernel_rfl) (hok':Acn hs r hs'=true:=by exact rfl):Ct Go.Proofs.Tryz.prog f args hs r hs':=Arx fz (by rw [hT]; exact Aim) Ub hf hb hname hok hok' hv
end
theorem opk {P:Program} {T:Cp} {an:Nat->Ann} {nl:Nat->List (Nat×Nat)} {o:Oper} {n:Nat} {e:Bp} {H:Hp} {acc:G3} {K:Nat->Bp->Hp->G3->Prop} (k:opK P T an nl o n e H acc K):opK P T an nl o n e H acc K:=k
theorem cnd {t:Bool} {A B:Prop} (k:bif t then A else B):bif t then A else B:=k
structure Hd (Q:Prop):Prop where
 get:Q
theorem Z {P Q:Prop} (k:Q) (h:Hd Q->P:=by
  intro q
  repeat first
    | ((with_reducible show Eg (D7 _ _ _ _ _ (_::_) _ _ _ _ _)); (first | refine nx ?_ | refine Nu ?_ | refine Nt ?_))
    | ((with_reducible refine opk ?_); conv=>whnf
       first
      | ((with_reducible show Eg _); refine nw ?_)
      | ((with_reducible show Gn _ _ _); refine Gn.mk _ rfl ?_)
      | ((with_reducible show Kx _ _); refine Ot ?_)
      | ((with_reducible show J5 _ _ _ _); refine Ow ?_)
      | ((with_reducible show Fm _ _ _); (first | refine Ou ?_ | refine Ov ?_)))
    | ((with_reducible show Eg (D7 _ _ _ _ _ [] _ _ _ _ _)); refine Mp ?_)
    | ((with_reducible show Eg (wc _ _ _ _ _ _ _ _ _)); refine nw ?_)
    | with_reducible refine Ar ?_
    | with_reducible refine Bt ?_
    | with_reducible refine Ac0 ?_
    | with_reducible refine K9 ?_
    | with_reducible refine Ju ?_
    | with_reducible refine Fc ?_
    | with_reducible refine Aig ?_
    | with_reducible refine Ac2 ?_
    | with_reducible refine Ac1 ?_
    | ((with_reducible refine cnd ?_); first | refine Fa rfl ?_ | refine Aci rfl ?_)
    | ((with_reducible show K1 _ _ _); refine K1.mk (by kernel_rfl) ?_)
    | ((with_reducible show wc _ _ (.cond _ _ _) _ _ _ _ _ _); first | refine Ye ?_ | refine Nx ?_)
    | refine nw ?_
    | refine nx ?_
    | refine Mp ?_
    | refine Nu ?_
    | refine Nt ?_
    | (conv=>whnf
       first
      | ((with_reducible show Eg _); refine nw ?_)
      | ((with_reducible show Gn _ _ _); refine Gn.mk _ rfl ?_)
      | ((with_reducible show Kx _ _); refine Ot ?_)
      | ((with_reducible show J5 _ _ _ _); refine Ow ?_)
      | ((with_reducible show Fm _ _ _); (first | refine Ou ?_ | refine Ov ?_)))
  exact q.get):P:=h ⟨k⟩
theorem ZS {P Q:Prop} (k:Q) (h:Hd Q->P:=by
  intro q
  repeat first
    | ((with_reducible show Eg (D7 _ _ _ _ _ (_::_) _ _ _ _ _)); (first | refine nx ?_ | refine Nu ?_ | refine Nt ?_))
    | ((with_reducible refine opk ?_); conv=>whnf
       first
      | ((with_reducible show Eg _); refine nw ?_)
      | ((with_reducible show Gn _ _ _); refine Gn.mk _ rfl ?_)
      | ((with_reducible show Kx _ _); refine Ot ?_)
      | ((with_reducible show J5 _ _ _ _); refine Ow ?_)
      | ((with_reducible show Fm _ _ _); (first | refine Ou ?_ | refine Ov ?_)))
    | ((with_reducible show Eg (D7 _ _ _ _ _ [] _ _ _ _ _)); refine Mp ?_)
    | ((with_reducible show Eg (wc _ _ _ _ _ _ _ _ _)); refine nw ?_)
    | with_reducible refine Ar ?_
    | with_reducible refine Ac0 ?_
    | with_reducible refine K9 ?_
    | with_reducible refine Ju ?_
    | with_reducible refine Fc ?_
    | with_reducible refine Ac2 ?_
    | with_reducible refine Ac1 ?_
    | ((with_reducible refine cnd ?_); first | refine Fa rfl ?_ | refine Aci rfl ?_)
    | ((with_reducible show K1 _ _ _); refine K1.mk (by kernel_rfl) ?_)
    | ((with_reducible show wc _ _ (.cond _ _ _) _ _ _ _ _ _); first | refine Ye ?_ | refine Nx ?_)
    | refine nw ?_
    | refine nx ?_
    | refine Mp ?_
    | refine Nu ?_
    | refine Nt ?_
    | (conv=>whnf
       first
      | ((with_reducible show Eg _); refine nw ?_)
      | ((with_reducible show Gn _ _ _); refine Gn.mk _ rfl ?_)
      | ((with_reducible show Kx _ _); refine Ot ?_)
      | ((with_reducible show J5 _ _ _ _); refine Ow ?_)
      | ((with_reducible show Fm _ _ _); (first | refine Ou ?_ | refine Ov ?_)))
  exact q.get):P:=h ⟨k⟩
theorem ZO {P Q:Prop} (k:Q) (h:Hd Q->P:=by
  intro q
  repeat first
    | ((with_reducible show Eg (D7 _ _ _ _ _ (_::_) _ _ _ _ _)); (first | refine nx ?_ | refine Nu ?_ | refine Nt ?_))
    | ((with_reducible refine opk ?_); conv=>whnf
       first
      | ((with_reducible show Gn _ _ _); refine Gn.mk _ rfl ?_)
      | ((with_reducible show Kx _ _); refine Ot ?_)
      | ((with_reducible show J5 _ _ _ _); refine Ow ?_)
      | ((with_reducible show Fm _ _ _); (first | refine Ou ?_ | refine Ov ?_)))
    | ((with_reducible show Eg (D7 _ _ _ _ _ [] _ _ _ _ _)); refine Mp ?_)
    | ((with_reducible show K1 _ _ _); refine K1.mk (by kernel_rfl) ?_)
    | refine nx ?_
    | refine Mp ?_
    | refine Nu ?_
    | refine Nt ?_
    | (conv=>whnf
       first
      | ((with_reducible show Gn _ _ _); refine Gn.mk _ rfl ?_)
      | ((with_reducible show Kx _ _); refine Ot ?_)
      | ((with_reducible show J5 _ _ _ _); refine Ow ?_)
      | ((with_reducible show Fm _ _ _); (first | refine Ou ?_ | refine Ov ?_)))
  exact q.get):P:=h ⟨k⟩
theorem Y {P:Prop} (h:P:=by
  repeat' first
    | ((with_reducible show Eg (D7 _ _ _ _ _ (_::_) _ _ _ _ _)); first | refine nx ?_ | refine Nu ?_ | refine Nt ?_ | refine Fx h (fun _ h=>?_) (fun _ h=>?_))
    | ((with_reducible refine opk ?_); conv=>whnf
       first
      | ((with_reducible show Eg _); refine nw ?_)
      | ((with_reducible show Gn _ _ _); refine Gn.mk _ rfl ?_)
      | ((with_reducible show Kx _ _); refine Ot ?_)
      | ((with_reducible show Hg _ _ _ _ _ _); (first | refine Bl h (fun _ h=>?_) | refine Aiu h (fun _ h=>?_)))
      | ((with_reducible show T5 _ _ _); refine Cg h (fun _ _ _ _ h=>?_))
      | ((with_reducible show Pl _ _ _ _ _); (first | refine Hi h (fun _ _ _ _ h=>?_) | refine G7 h (fun _ _ _ _ h=>?_)))
      | ((with_reducible show J5 _ _ _ _); refine Ow ?_)
      | ((with_reducible show T7 _ _ _ _); refine Aiv ?_)
      | ((with_reducible show Kw _ _ _ _ _ _ _); (first | refine Aiw h (fun _ h=>?_) | refine Kh h (fun _ h=>?_) | refine Aix h (fun _ h=>?_)))
      | ((with_reducible show Pn _ _ _); (first | refine Adu h (fun _ h=>?_) | refine Aiy h (fun _ h=>?_)))
      | ((with_reducible show T6 _ _ _ _ _); refine Gx h (fun _ h=>?_))
      | ((with_reducible show Pm _ _ _ _); (first | refine Aiz h (fun _ h=>?_) | refine Adv h (fun _ h=>?_)))
      | ((with_reducible show Fm _ _ _); (first | refine Ou ?_ | refine Ov ?_))
      | ((with_reducible show Xs _ _ _); refine K7 h (fun _ h=>?_))
      | ((with_reducible show Xm _ _ _ _); refine Ui h (fun _ h=>?_))
      | ((with_reducible show Xn _ _ _); refine Yc h (fun _ h=>?_))
      | ((with_reducible show Xp _ _ _ _); refine Aid h (fun _ h=>?_))
      | ((with_reducible show Xo _ _ _ _); refine Aie h (fun _ h=>?_))
      | ((with_reducible show Xq _ _ _ _); refine Acy h (fun _ _ _ _ h=>?_))
      | ((with_reducible show Xt _ _); refine F8 h (fun h=>?_))
      | ((with_reducible show Xu _ _ _ _ _); refine Ah7 h (fun _ h=>?_))
      | ((with_reducible show Xv _ _ _ _); refine Ah8 h (fun _ h=>?_)))
    | ((with_reducible show Eg (D7 _ _ _ _ _ [] _ _ _ _ _)); refine Mp ?_)
    | ((with_reducible show Eg (wc _ _ _ _ _ _ _ _ _)); refine nw ?_)
    | with_reducible refine Ar ?_
    | with_reducible refine Bt ?_
    | with_reducible refine Ac0 ?_
    | with_reducible refine K9 ?_
    | with_reducible refine Ju ?_
    | with_reducible refine Fc ?_
    | with_reducible refine Aig ?_
    | with_reducible refine Ac2 ?_
    | with_reducible refine Ac1 ?_
    | ((with_reducible refine cnd ?_); first | refine Fa rfl ?_ | refine Aci rfl ?_)
    | ((with_reducible show wc _ _ (.cond _ _ _) _ _ _ _ _ _); first | refine Ao h (fun _ h=>?_) (fun _ h=>?_) | refine Ye ?_ | refine Nx ?_)
    | ((with_reducible show K1 _ _ _); refine K1.mk (by kernel_rfl) ?_)
    | refine nx ?_
    | refine Mp ?_
    | refine Nu ?_
    | refine Nt ?_
    | refine Fx h (fun _ h=>?_) (fun _ h=>?_)
    | exact lpn h
    | exact jnn h
    | replace h:=Ck h
    | replace h:=lpj h
    | refine nw ?_
    | (conv=>whnf
       first
      | ((with_reducible show Eg _); refine nw ?_)
      | ((with_reducible show Gn _ _ _); refine Gn.mk _ rfl ?_)
      | ((with_reducible show Kx _ _); refine Ot ?_)
      | ((with_reducible show Hg _ _ _ _ _ _); (first | refine Bl h (fun _ h=>?_) | refine Aiu h (fun _ h=>?_)))
      | ((with_reducible show T5 _ _ _); refine Cg h (fun _ _ _ _ h=>?_))
      | ((with_reducible show Pl _ _ _ _ _); (first | refine Hi h (fun _ _ _ _ h=>?_) | refine G7 h (fun _ _ _ _ h=>?_)))
      | ((with_reducible show J5 _ _ _ _); refine Ow ?_)
      | ((with_reducible show T7 _ _ _ _); refine Aiv ?_)
      | ((with_reducible show Kw _ _ _ _ _ _ _); (first | refine Aiw h (fun _ h=>?_) | refine Kh h (fun _ h=>?_) | refine Aix h (fun _ h=>?_)))
      | ((with_reducible show Pn _ _ _); (first | refine Adu h (fun _ h=>?_) | refine Aiy h (fun _ h=>?_)))
      | ((with_reducible show T6 _ _ _ _ _); refine Gx h (fun _ h=>?_))
      | ((with_reducible show Pm _ _ _ _); (first | refine Aiz h (fun _ h=>?_) | refine Adv h (fun _ h=>?_)))
      | ((with_reducible show Fm _ _ _); (first | refine Ou ?_ | refine Ov ?_))
      | ((with_reducible show Xs _ _ _); refine K7 h (fun _ h=>?_))
      | ((with_reducible show Xm _ _ _ _); refine Ui h (fun _ h=>?_))
      | ((with_reducible show Xn _ _ _); refine Yc h (fun _ h=>?_))
      | ((with_reducible show Xp _ _ _ _); refine Aid h (fun _ h=>?_))
      | ((with_reducible show Xo _ _ _ _); refine Aie h (fun _ h=>?_))
      | ((with_reducible show Xq _ _ _ _); refine Acy h (fun _ _ _ _ h=>?_))
      | ((with_reducible show Xt _ _); refine F8 h (fun h=>?_))
      | ((with_reducible show Xu _ _ _ _ _); refine Ah7 h (fun _ h=>?_))
      | ((with_reducible show Xv _ _ _ _); refine Ah8 h (fun _ h=>?_)))
    | (have h:=Option.some.inj h; subst h; exact rfl)
    | (cases h; (repeat refine ⟨rfl,?_⟩); exact trivial)
    | (cases h; done)
):P:=h
end Go.Ab
namespace Go.Ab
open Go Go.Proofs
set_option maxRecDepth 10000
set_option linter.unusedVariables false
theorem Ase {a0 r:List Bw} (h:B1 16 [] a0=some r):As Go.Proofs.Tryz.prog 147 [Aw 2 Dn a0] (Aw 2 Dn r):=by
 have h:((B1 16 [] a0).bind fun o=>some o)=some r:=by rw [h]; rfl
 refine pw {T:=B8,an:=(fun s=>bif Nat.beq s 5 then .own else .ask),nl:=(fun s=>bif Nat.beq s 2 then [(0,2)] else [])} Tryz.func147 ?_
 refine Ar ?_
 refine Bt ?_
 refine ZO ?_
 refine Ar (Ar ?_)
 refine Lx (fun b:Bool=>b=true->a0 = []) (fun b=>[(4,An b)]) (fun _=>[]) (fun _=>rfl) ?_ ?_
 .intro K hK
  refine Ar0 0 ?_
  intro v hv
  obtain ⟨p,c,rfl,hp⟩:=hv 2 (a0.map Dn) rfl
  refine Bt ?_
  refine nx ?_
  refine nx ?_
  refine Mp ?_
  refine hK p.isNone _ _ _ (fun e=>?_) ⟨rfl,trivial⟩ trivial
  cases p with
  | none=>simpa using hp rfl
  | some _=>cases e
 .rintro b _ hb
  cases b with
  | true=>
   have hb:=hb rfl
   subst hb
   have h:some ([]:List Bw)=some r:=by rw [<-h]; rfl
   exact Y
  | false=>
   refine Z ?_
   exact Y
end Go.Ab
namespace Go.Ab
open Go Go.Proofs Go.Shelf
set_option maxRecDepth 100000
set_option linter.unusedVariables false
theorem Cf.up {σ:Av} {ι:Bq} {H:Hp} {F:Av} {w w':World} {x:Nat} (h:Cf σ ι H F w x) (hk:∀(b:Nat) (o:Obj),w.heap[b]? = some o->w'.heap[b]? = some o):Cf σ ι H F w' x:=by
 unfold Cf at h ⊢
 cases hx:H x with
 | none=>rw [hx] at h; exact h
 | dead=>trivial
 | cells E cs=>
  rw [hx] at h
  obtain ⟨b,C,h1,h2,h3,g,f⟩:=h
  exact ⟨b,C,h1,h2,h3,hk _ _ g,f⟩
 | rows E sz xs=>
  rw [hx] at h
  obtain ⟨h0,h1,h2⟩:=h
  refine ⟨h0,h1,?_⟩
  rcases h2 with h2 | ⟨b,c,C,q,l,k,j,i⟩
  .exact .inl h2
  .exact .inr ⟨b,c,C,q,l,k,hk _ _ j,i⟩
 | map es=>
  rw [hx] at h
  obtain ⟨b,M,t,h1,h2,h3,g,f⟩:=h
  exact ⟨b,M,t,h1,h2,h3,hk _ _ g,f⟩
theorem St.growG {σ:Av} {ι:Bq} {H:Hp} {F:Av} {W w:World} (s:St σ ι H F W w) (k:Nat) (os:Array Obj):St σ ι H F W (Sort.grow (Sort.ahead w k) os):=by
 have hk:∀(b:Nat) (o:Obj),w.heap[b]? = some o->(Sort.grow (Sort.ahead w k) os).heap[b]? = some o:=by
  intro b o h
  have c:=(Array.getElem?_eq_some_iff.1 h).1
  show (w.heap++os)[b]? = _
  rw [Array.getElem?_append_left c]; exact h
 exact ⟨fun b o h=>hk b o (s.sto b o h),fun b o h=>⟨hk b o (s.fra b o h).1,(s.fra b o h).2⟩,fun h=>(s.obj h).up hk,s.inj,s.os,s.tape,s.output,s.glo,Nat.le_trans s.drw (Nat.le_add_right _ _)⟩
theorem Asf {α:Type} [Inhabited α] (enc:α->Value) (w:World) (b:Nat) (d:Array α) (C:Array Value) (E:TypeId) (h:w.heap[b]? = some (.cells C E (0,0))):Sort.putRow enc w b 0 d=w.setRow b (Sort.putCells enc 0 d C):=by
 have c:(Sort.putRow enc w b 0 d).heap=(w.setRow b (Sort.putCells enc 0 d C)).heap:=by
  apply Array.ext_getElem?
  intro i
  simp only [Sort.putRow,Sort.mapBlock,World.setRow,Array.getElem?_modify]
  split
  .rename_i e; subst e
   rw [h]; simp [Sort.onCells]
  .rfl
 unfold Sort.putRow Sort.mapBlock World.setRow at c ⊢
 simp only at c
 rw [c]
end Go.Ab
namespace Go.Ab
open Go Go.Proofs Go.Shelf Go.Sort
set_option maxRecDepth 100000
set_option linter.unusedVariables false
theorem Asg {v:Value} (h:D0 v=true):v.oneCell'=true:=by cases v <;> first | rfl | cases h
theorem Ash {σ:Av} {ι:Bq} {H:Hp} {f:FuncId} {v:Value} (h:Conc σ ι H (.fn f []) v):v = .func (.func f) #[] #[]:=by
 cases h with
 | cc h=>cases h
 | fn _ _ vs b _=>
  have:vs = #[]:=Array.size_eq_zero_iff.1 (by simpa using b)
  rw [this]
def Ai0 {α:Type} (σ:Av) (eA:α->AV) (sz:Nat) (S:List α) (x:α) (c:List Value):Prop :=
 x∈S/\(eA x).cells.length=sz/\c.length=sz/\∀(j:Nat) (a:AV) (v:Value),(eA x).cells[j]? = some a->c[j]? = some v->CC σ a v/\D0 v=true
abbrev L2 {α:Type} (σ:Av) (eA:α->AV) (sz:Nat) (S:List α):Type:={p:α×List Value // Ai0 σ eA sz S p.1 p.2}
theorem Asi {σ:Av} {W w':World} (g:∀b o,W.heap[b]? = some o->σ b=some o) (s:St σ ι0 H0 (fun _=>none) W w'):∃q f,w'=grow (W.drewN q) f:=by
 have hk:∀b o,W.heap[b]? = some o->w'.heap[b]? = some o:=fun b o h=>s.sto b o (g b o h)
 have j:W.heap.size<=w'.heap.size:=by
  rcases Nat.eq_zero_or_pos W.heap.size with h | h
  .omega
  .have:=hk (W.heap.size-1) _ (Array.getElem?_eq_getElem (by omega))
   have:=(Array.getElem?_eq_some_iff.1 this).1
   omega
 refine ⟨w'.drawn-W.drawn,w'.heap.extract W.heap.size w'.heap.size,?_⟩
 have c:w'.heap=W.heap++w'.heap.extract W.heap.size w'.heap.size:=by
  apply Array.ext_getElem?
  intro i
  by_cases hi:i<W.heap.size
  .rw [Array.getElem?_append_left hi,Array.getElem?_eq_getElem hi]
   exact hk i _ (Array.getElem?_eq_getElem hi)
  .rw [Array.getElem?_append_right (by omega)]
   by_cases hj:i<w'.heap.size
   .rw [Array.getElem?_eq_getElem hj,Array.getElem?_eq_getElem (by simp; omega)]
    simp only [Array.getElem_extract]
    congr 2
    omega
   .rw [Array.getElem?_eq_none (by omega),Array.getElem?_eq_none (by simp; omega)]
 have h1:=s.os
 have h2:=s.tape
 have h3:=s.output
 have k:=s.drw
 cases w' with
 | mk heap tape drawn os output=>
  simp only at h1 h2 h3 k c
  unfold grow World.drewN
  simp only [World.mk.injEq]
  exact ⟨c,h2,by omega,h1,h3⟩
theorem Asj {ρ:Ren} {α:Type} {eA:α->AV} {E:TypeId} {sz f g:Nat} {cmp:α->α->Option Int} (L:SlLaysF0.n6 Go.Proofs.Tryz.prog ρ) (hf:ρ.f 6=f) (a7:Ab2 Go.Proofs.Tryz.prog f)
  (aE:∀w,(isAgg (ρ.t 24)).run Go.Proofs.Tryz.prog w = .ok true w) (zE:∀w,(Go.sizeOf (ρ.t 24)).run Go.Proofs.Tryz.prog w = .ok sz w) (eg:∀args w,(callFunc g args).run Go.Proofs.Tryz.prog w = .ok (.enter g args) w)
  (ay:∀x y n,cmp x y=some n->As Go.Proofs.Tryz.prog g [eA x,eA y] (O .i64 n)) (b3:∀x,∃cs,eA x = .agg cs) {l r:List α} (h:P0 cmp l=some r) (ak:l≠[]) :
  Ct Go.Proofs.Tryz.prog f [.arr 0 l.length 0 l.length,.fn g []] [.rows E sz (l.map eA)] (.tup []) [.rows E sz (r.map eA)]:=by
 obtain ⟨cf,law,be,I,A⟩:=Ar1 h
 refine ⟨a7,fun σ F W w ι vs s ax=>?_⟩
 obtain ⟨v,v2,rfl,G,b6⟩:=Ais ax
 obtain rfl:=Ash b6
 have hh:hp [.rows E sz (l.map eA)] 0 = .rows E sz (l.map eA):=rfl
 have R:=G.arr_inv hh (by simp)
 have hor:=s.obj 0
 unfold Cf at hor
 rw [hh] at hor
 obtain ⟨U,ao,hor⟩:=hor
 rw [List.length_map] at ao
 rcases hor with ⟨_,ai⟩ | ⟨b,V,D,hb,g1,g2,g3,g4,g5,g6⟩
 .exact (ak (by simpa using ai)).elim
 rw [List.length_map] at g5
 unfold Fs at R
 rw [hb] at R
 simp only [Nat.zero_mul,Nat.sub_zero] at R
 obtain ⟨ht,ab⟩:=R
 subst ab
 obtain ⟨gg,q1,q2,q3⟩:=g6
 have aa:∀(i:Nat) (x:α),l[i]? = some x->(l.map eA)[i]? = some (eA x):=fun i x hx=>by rw [List.getElem?_map,hx]; rfl
 have a1:∀(i:Nat) (hi:i<l.length),Ai0 σ eA sz l l[i] ((List.range sz).map (gg i)):=by
  intro i hi
  have hx:l[i]? = some l[i]:=List.getElem?_eq_getElem hi
  refine ⟨List.getElem_mem hi,q1 i _ (aa i _ hx),by simp,fun j a v ha G=>?_⟩
  rw [List.getElem?_map,Option.map_eq_some_iff] at G
  obtain ⟨k,hk,rfl⟩:=G
  have ba:k=j:=by
   have:=(List.getElem?_eq_some_iff.1 hk).2
   simpa using this.symm
  subst ba
  exact q2 i _ k a (aa i _ hx) ha
 have hpos:0<l.length:=List.length_pos_iff.2 ak
 let d:Array (L2 σ eA sz l):=Array.ofFn fun i:Fin l.length=>⟨(l[i.1],(List.range sz).map (gg i.1)),a1 i.1 i.2⟩
 haveI:Inhabited (L2 σ eA sz l):=⟨⟨(l[0],(List.range sz).map (gg 0)),a1 0 hpos⟩⟩
 have B:d.size=l.length:=by simp [d]
 have bb:∀i (hi:i<l.length),d[i]! = ⟨(l[i],(List.range sz).map (gg i)),a1 i hi⟩:=fun i hi=>by
  rw [getElem!_pos d i (by rw [B]; exact hi)]; simp [d]
 let enc:L2 σ eA sz l->List Value:=fun p=>p.1.2
 have hk:∀x:L2 σ eA sz l,(enc x).length=sz:=fun x=>x.2.2.2.1
 have h1:∀x:L2 σ eA sz l,∀v∈enc x,v.oneCell'=true:=by
  intro x v G
  obtain ⟨j,hj⟩:=List.getElem?_of_mem G
  have q:=(List.getElem?_eq_some_iff.1 hj).1
  rw [hk x] at q
  have ha:(eA x.1.1).cells[j]? = some ((eA x.1.1).cells[j]'(by rw [x.2.2.1]; exact q)):=List.getElem?_eq_getElem _
  exact Asg (x.2.2.2.2 j _ v ha hj).2
 let a8:L2 σ eA sz l->L2 σ eA sz l->Int:=fun x y=>cf x.1.1 y.1.1
 have hO:SWO (ltOf a8):=by
  constructor
  .intro x; exact decide_eq_false (law.irr x.1.1)
  .intro x y z Y X
   exact decide_eq_true (law.trs _ _ _ (of_decide_eq_true Y) (of_decide_eq_true X))
  .intro x y z Y X
   exact decide_eq_false (law.ntr _ _ _ (of_decide_eq_false Y) (of_decide_eq_false X))
 have hH:HoldsK enc sz w b 0 d:=by
  intro t Z
  rw [size_flatK,B] at Z
  have ad:t / sz<l.length:=Nat.div_lt_of_lt_mul (by rw [Nat.mul_comm]; exact Z)
  have ac:t % sz<sz:=Nat.mod_lt _ U
  rw [get_flatK _ _ _ _ (by rw [B]; exact Z),bb _ ad]
  have e:=q3 (t / sz) (t % sz) (by rw [List.length_map]; exact ad) ac
  rw [show t / sz*sz+t % sz=t by rw [Nat.mul_comm]; exact Nat.div_add_mod t sz] at e
  refine ⟨?_,?_⟩
  .rw [Nat.zero_add,Ii g3,e]
   show some _=some (id _)
   congr 1
   show gg _ _=((List.range sz).map (gg (t / sz)))[t % sz]!
   rw [getElem!_pos _ _ (by simpa using ac)]
   simp
  .simp [World.frozen?,g3]
 have hblk:b<w.heap.size:=(Array.getElem?_eq_some_iff.1 g3).1
 have hC:CmpLays Go.Proofs.Tryz.prog g #[] enc sz a8 b 0 d.size w:=by
  intro m os dk hs x y
  generalize b5:sortWorldK enc sz w b 0 m dk os=S
  have aq:∀b' o,σ b'=some o->S.heap[b']? = some o:=by
   intro b' o ho
   have aj:b≠b':=by
    rintro rfl
    rw [g1] at ho; cases ho
   have e:=s.sto b' o ho
   have q:=(Array.getElem?_eq_some_iff.1 e).1
   rw [<-b5]
   show ((w.heap.modify b _)++os)[b']? = _
   rw [Array.getElem?_append_left (by simpa using q),Array.getElem?_modify,if_neg aj]; exact e
  have au:=be x.1.1 x.2.1 y.1.1 y.2.1
  have hp:=ay _ _ _ au
  have s1:St ((fun b=>S.heap[b]?)) ι0 H0 (fun _=>none) S S:=⟨fun _ _ e=>e,(fun _ _ e=>by cases e),fun _=>rfl,(fun _ _ _ hl=>by cases hl),rfl,rfl,rfl,s.glo.mono aq,Nat.le_refl _⟩
  have az:∀z:L2 σ eA sz l,Conc ((fun b=>S.heap[b]?)) ι0 H0 (eA z.1.1) (.agg (enc z).toArray):=by
   intro z
   obtain ⟨cs,av⟩:=b3 z.1.1
   have J:(eA z.1.1).cells=cs:=by rw [av]; rfl
   rw [av]
   refine .cc (.agg _ _ ?_ fun i c v hc G=>?_)
   .rw [<-J,z.2.2.1]; simp [hk z]
   .rw [<-J] at hc
    exact (z.2.2.2.2 i c v hc (by simpa using G)).1.mono aq
  refine (hp.2 ((fun b=>S.heap[b]?)) (fun _=>none) S S _ s1 ⟨rfl,?_⟩).mono ?_
  .intro i a v ha G
   match i,ha,G with
   | 0,ha,G=>cases ha; cases G; exact az x
   | 1,ha,G=>cases ha; cases G; exact az y
   | n+2,ha,G=>simp at ha
  .rintro e w' ⟨v,σ',rfl,ap,b7,hc⟩
   refine ⟨?_,?_⟩
   .cases hc with
    | cc h=>cases h; rfl
   .exact Asi (σ:=σ') (fun b o ho=>ap b o ho) b7
 have call:=AnyQ.slices_SortFunc L sz aE zE enc hk h1 a8 hO g #[] b 0 V d w eg hC hH hblk (by rw [B]; omega)
 rw [hf,B] at call
 refine call.mono ?_
 rintro e w' ⟨rfl,u,n,os,b9,b8,rfl⟩
 obtain ⟨p1,p2,p3⟩:=b9
 have N:u.size=l.length:=by rw [p1,B]
 have M:∀(a:Array (L2 σ eA sz l)),a.size=l.length->(a.extract 0 l.length).toList=a.toList:=fun a ha=>by
  rw [<-ha]; simp
 rw [M u N,M d B] at p3
 have am:d.toList.map (fun p=>p.1.1)=l:=by
  apply List.ext_getElem
  .simp [B]
  .intro i bh bg
   simp [d]
 have ah:(u.toList.map fun p=>p.1.1).Perm l:=by
  have:=p3.map fun p:L2 σ eA sz l=>p.1.1
  rwa [am] at this
 have hR:(u.toList.map fun p=>p.1.1).Pairwise fun x y=>cf x y<0\/cf y x<0:=by
  refine ((ah.trans I.symm).pairwise_iff (fun {x y} h=>h.symm)).2 ?_
  exact A.imp fun h=>.inl h
 have hS:(u.toList.map fun p=>p.1.1).Pairwise fun x y=>cf x y<0:=by
  rw [List.pairwise_iff_getElem] at hR ⊢
  intro i j hi hj ar
  simp only [List.length_map,Array.length_toList] at hi hj
  rcases hR i j (by simpa using hi) (by simpa using hj) ar with h | h
  .exact h
  .have:=b8 i j (Nat.zero_le _) ar (by omega)
   rw [getElem!_pos u i hi,getElem!_pos u j hj] at this
   have:=of_decide_eq_false this
   simp only [List.getElem_map,Array.getElem_toList] at h
   exact (this h).elim
 have ag:u.toList.map (fun p=>p.1.1)=r:=by
  refine List.Perm.eq_of_pairwise (le:=fun x y=>cf x y<0) (fun x y _ _ h1 h2=>(law.irr x (law.trs _ _ _ h1 h2)).elim) hS A (ah.trans I.symm)
 have af:r.length=l.length:=I.length_eq
 have bf:(flatK enc sz u).size=l.length*sz:=by rw [size_flatK,N]
 have b4:(Sort.putCells id 0 (flatK enc sz u) D).size=V*sz:=by unfold Sort.putCells; rw [Array.size_mapIdx]; exact g4
 have ae:∀(i:Nat) (x:α),r[i]? = some x->i<u.size/\(u[i]!).1.1=x:=by
  intro i x hx
  rw [<-ag,List.getElem?_map,Option.map_eq_some_iff] at hx
  obtain ⟨p,hp,rfl⟩:=hx
  have q:=(List.getElem?_eq_some_iff.1 hp).1
  simp only [Array.length_toList] at q
  refine ⟨q,?_⟩
  rw [getElem!_pos u i q]
  have:=(List.getElem?_eq_some_iff.1 hp).2
  simp only [Array.getElem_toList] at this
  rw [this]
 obtain ⟨s',le⟩:=s.setRows 0 E sz _ (r.map eA) hh b V hb (by simp [af]) (Sort.putCells id 0 (flatK enc sz u) D) b4 (by
  refine ⟨fun i j=>(enc u[i]!)[j]!,?_,?_,?_⟩
  .intro i x hx
   rw [List.getElem?_map] at hx
   obtain ⟨z,hz,rfl⟩:=Option.map_eq_some_iff.1 hx
   obtain ⟨e1,e2⟩:=ae i z hz
   rw [<-e2]; exact (u[i]!).2.2.1
  .intro i x j c hx a6
   rw [List.getElem?_map] at hx
   obtain ⟨z,hz,rfl⟩:=Option.map_eq_some_iff.1 hx
   obtain ⟨e1,e2⟩:=ae i z hz
   rw [<-e2] at a6
   have q:=(List.getElem?_eq_some_iff.1 a6).1
   rw [(u[i]!).2.2.1,<-(u[i]!).2.2.2.1] at q
   have hg:(u[i]!).1.2[j]? = some ((enc u[i]!)[j]!):=by
    rw [List.getElem?_eq_getElem q,getElem!_pos (enc u[i]!) j q]
   exact (u[i]!).2.2.2.2 j c _ a6 hg
  .intro i j hi hj
   rw [List.length_map,af] at hi
   have q:i*sz+j<l.length*sz:=by
    have:=Nat.mul_le_mul_right sz (show i+1<=l.length from hi)
    rw [Nat.add_mul,Nat.one_mul] at this; omega
   have hD:i*sz+j<D.size:=by
    rw [g4]
    exact Nat.lt_of_lt_of_le q (Nat.mul_le_mul_right sz g5)
   unfold Sort.putCells
   rw [Array.getElem?_mapIdx,Array.getElem?_eq_getElem hD]
   simp only [Option.map_some,Nat.zero_le,true_and,Nat.zero_add,bf,q,if_true,Nat.sub_zero]
   congr 1
   show id ((flatK enc sz u)[i*sz+j]!)=_
   rw [get_flatK _ _ _ _ (by rw [N]; exact q)]
   have e1:(i*sz+j) / sz=i:=by rw [Nat.mul_comm,Nat.mul_add_div U,Nat.div_eq_of_lt hj,Nat.add_zero]
   have e2:(i*sz+j) % sz=j:=by rw [Nat.mul_comm,Nat.mul_add_mod,Nat.mod_eq_of_lt hj]
   rw [e1,e2]; rfl)
 have eH:A5 (hp [.rows E sz (l.map eA)]) 0 (.rows E sz (r.map eA))=hp [.rows E sz (r.map eA)]:=by
  funext i
  match i with
  | 0=>rfl
  | i+1=>rfl
 rw [eH] at le s'
 have eW:sortWorldK enc sz w b 0 n u os=Sort.grow (Sort.ahead (w.setRow b (Sort.putCells id 0 (flatK enc sz u) D)) n) os:=by
  unfold sortWorldK putRowK
  rw [Asf id (Sort.ahead w n) b (flatK enc sz u) D E g3]
  rfl
 rw [eW]
 exact ⟨_,σ,ι,rfl,le,s'.growG n os,.tup _ _ rfl (fun i c v h1 _=>by cases h1)⟩
def Ask:Ren:={f:=fun x=>match x with | 6=>132 | 15=>211 | 14=>210 | 28=>267 | 29=>268 | 20=>259 | 21=>260 | 22=>261 | 23=>262 | 24=>263 | 25=>264 | 26=>265 | 27=>266 | 46=>320 | 47=>321 | 48=>322 | 49=>323 | 50=>324 | 57=>354 | n=>n,t:=fun x=>match x with | 22=>28 | 24=>61 | 25=>175 | 3=>3 | 39=>246 | 0=>0 | 53=>106 | 55=>105 | 4=>4 | 46=>301 | 45=>300 | 50=>146 | 5=>5 | 9=>9 | 66=>352 | 70=>77 | 76=>389 | 77=>390 | n=>n,g:=fun n=>n}
theorem Asl:SlLaysF0.n6 Go.Proofs.Tryz.prog Ask:=by
 constructor
 case f6=>exact Exists.intro "slices.SortFunc[[]amortcost/api.Term,amortcost/api.Term]" ⟨by kernel_rfl,by kernel_rfl⟩
 case f14=>exact Exists.intro "slices.pdqsortCmpFunc[amortcost/api.Term]" ⟨by kernel_rfl,by kernel_rfl⟩
 case f20=>exact Exists.intro "slices.insertionSortCmpFunc[amortcost/api.Term]" ⟨by kernel_rfl,by kernel_rfl⟩
 case f21=>exact Exists.intro "slices.heapSortCmpFunc[amortcost/api.Term]" ⟨by kernel_rfl,by kernel_rfl⟩
 case f22=>exact Exists.intro "slices.breakPatternsCmpFunc[amortcost/api.Term]" ⟨by kernel_rfl,by kernel_rfl⟩
 case f23=>exact Exists.intro "slices.choosePivotCmpFunc[amortcost/api.Term]" ⟨by kernel_rfl,by kernel_rfl⟩
 case f24=>exact Exists.intro "slices.reverseRangeCmpFunc[amortcost/api.Term]" ⟨by kernel_rfl,by kernel_rfl⟩
 case f25=>exact Exists.intro "slices.partialInsertionSortCmpFunc[amortcost/api.Term]" ⟨by kernel_rfl,by kernel_rfl⟩
 case f26=>exact Exists.intro "slices.partitionEqualCmpFunc[amortcost/api.Term]" ⟨by kernel_rfl,by kernel_rfl⟩
 case f27=>exact Exists.intro "slices.partitionCmpFunc[amortcost/api.Term]" ⟨by kernel_rfl,by kernel_rfl⟩
 case f46=>exact Exists.intro "slices.siftDownCmpFunc[amortcost/api.Term]" ⟨by kernel_rfl,by kernel_rfl⟩
 case f49=>exact Exists.intro "slices.medianAdjacentCmpFunc[amortcost/api.Term]" ⟨by kernel_rfl,by kernel_rfl⟩
 case f50=>exact Exists.intro "slices.medianCmpFunc[amortcost/api.Term]" ⟨by kernel_rfl,by kernel_rfl⟩
 case f57=>exact Exists.intro "slices.order2CmpFunc[amortcost/api.Term]" ⟨by kernel_rfl,by kernel_rfl⟩
 all_goals first | kernel_rfl | (intro w; kernel_rfl)
theorem Asm {α:Type} {eA:α->AV} {g:Nat} {cmp:α->α->Option Int} (j:∀args w,(callFunc g args).run Go.Proofs.Tryz.prog w = .ok (.enter g args) w)
  (b:∀x y n,cmp x y=some n->As Go.Proofs.Tryz.prog g [eA x,eA y] (O .i64 n)) (c:∀x,∃cs,eA x = .agg cs) {f r:List α} (h:P0 cmp f=some r) (i:f≠[]) :
  Ct Go.Proofs.Tryz.prog 132 [.arr 0 f.length 0 f.length,.fn g []] [.rows 61 5 (f.map eA)] (.tup []) [.rows 61 5 (r.map eA)] :=
 Asj Asl rfl ⟨_,Tryz.func132,by kernel_rfl,by kernel_rfl⟩ (by intro w; kernel_rfl) (by intro w; kernel_rfl) j b c h i
end Go.Ab
namespace Go.Ab
open Go Go.Proofs Go.Shelf
set_option maxRecDepth 100000
set_option linter.unusedVariables false
theorem Agv {σ:Av} {ι:Bq} {H:Hp} {u v:Value} (h:Conc σ ι H (.val u) v):v=u:=by
 cases h with
 | cc h=>cases h; rfl
end Go.Ab
