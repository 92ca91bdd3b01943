/- Contracts of strings.Builder and strconv.Itoa. -/
import Derived.Test.YthjgkpbilpojpaaGreatDoorBzTy
import Derived.Test.YthjgkpbilpojpaaGreatDoorBzHandB
import Derived.Shelf.Strconv.Itoa4
import Derived.KernelRfl
import Derived.Shelf.Sort.Plain
import Derived.Shelf.SlSortCmp.WholeK
import Derived.Shelf.Spec.SlicesGrow
namespace Go.Ab
open Go Go.Proofs Go.Shelf
set_option maxRecDepth 100000
def Agu:Ren:={f:=fun x=>match x with | 171=>120 | 243=>181 | 246=>243 | 283=>275 | 284=>276 | 285=>277 | 286=>278 | 129=>193 | 317=>300 | 318=>301 | 319=>302 | 320=>303 | 337=>307 | 338=>308 | 173=>183 | n=>n,t:=fun x=>match x with | 3=>3 | 9=>9 | 2=>2 | 4=>4 | 171=>353 | 0=>0 | 53=>104 | 37=>185 | 5=>5 | 173=>355 | 212=>374 | 51=>105 | 20=>20 | 213=>375 | 46=>205 | 232=>379 | 233=>380 | n=>n,g:=fun x=>match x with | 17=>0 | 18=>1 | 19=>2 | n=>n}
theorem Agv:LaysM.n171 Go.Proofs.Tryz.prog Agu:=by
 constructor
 constructor
 all_goals first | kernel_rfl | (intro w; kernel_rfl)
theorem St.grown {σ:Aq} {F:Aq} {W w:World} (s:St σ ι0 H0 F W w) (k:Nat) (os:Array Obj):St σ ι0 H0 F W (Sort.grow (w.drewN k) os):=by
 have hk:∀(b:Nat) (o:Obj),w.heap[b]? = some o->(Sort.grow (w.drewN k) os).heap[b]? = some o:=by
  intro b o h
  have c:=(Array.getElem?_eq_some_iff.1 h).1
  show (w.heap++os)[b]? = _
  rw [Array.getElem?_append_left c]; exact h
 exact ⟨fun b o h=>hk b o (s.sto b o h),fun b o h=>⟨hk b o (s.fra b o h).1,(s.fra b o h).2⟩,fun _=>rfl,(fun _ _ _ f=>by cases f),s.os,s.tape,s.output,s.glo,Nat.le_trans s.drw (Nat.le_add_right _ _)⟩
theorem Agw {σ:Aq} {ι:Bm} {H:Hp} {F:Aq} {W w:World} (s:St σ ι H F W w):Lib.TabIs Go.Proofs.Tryz.prog w "internal/strconv.uint64pow10" .u64 Lib.pow10Tab:=by
 obtain ⟨E,fr,e⟩:=s.glo
 have h:=s.sto _ _ e
 have g:Go.Proofs.Tryz.prog.globalNamed "internal/strconv.uint64pow10" = some 0:=Agv.m17
 unfold Lib.TabIs World.var?
 rw [g]
 simp only [Option.bind_some,h]
theorem Q7 {σ:Aq} {ι:Bm} {H:Hp} {x:AV} {vs:Array Value} (h:J4 σ ι H [x] vs):∃v,vs = #[v]/\Conc σ ι H x v:=by
 obtain ⟨h1,h2⟩:=h
 have h1:vs.size=1:=h1
 refine ⟨vs[0],?_,h2 0 x _ rfl (by simp [h1])⟩
 apply Array.ext
 .simp [h1]
 .intro i c b
  have:i=0:=by omega
  subst this; rfl
theorem Ap3 {a0:Int} {r:ByteArray} (h:Lo a0=some r):Aw Go.Proofs.Tryz.prog 120 [O .i64 a0] (Ek r):=by
 unfold Lo at h
 split at h
 .rename_i hc
  cases h
  refine ⟨⟨_,Tryz.func120,by kernel_rfl,by kernel_rfl⟩,fun σ F W w vs s b=>?_⟩
  obtain ⟨v,rfl,c⟩:=Q7 b
  have c:=c.val_inv
  subst c
  have:=Any.strconv_Itoa Agv a0 hc.1 hc.2 w (Agw s)
  refine this.mono ?_
  rintro e w' ⟨rfl,k,os,rfl⟩
  exact ⟨_,σ,rfl,Aq.le_refl σ,s.grown k os,.of_val _⟩
 .cases h
theorem Ap4:LaysM.n173 Go.Proofs.Tryz.prog Agu:=by
 constructor
 constructor
 all_goals first | kernel_rfl | (intro w; kernel_rfl)
theorem Abs {σ:Aq} {ι:Bm} {H:Hp} {x y:AV} {vs:Array Value} (h:J4 σ ι H [x,y] vs):∃v u,vs = #[v,u]/\Conc σ ι H x v/\Conc σ ι H y u:=by
 obtain ⟨h1,h2⟩:=h
 have h1:vs.size=2:=h1
 refine ⟨vs[0],vs[1],?_,h2 0 x _ rfl (by simp [h1]),h2 1 y _ rfl (by simp [h1])⟩
 apply Array.ext
 .simp [h1]
 .intro i c b
  rcases (by omega:i=0\/i=1) with h | h
  .subst h; rfl
  .subst h; rfl
theorem Ap5 {a0 a1:Int} {r:ByteArray} (h:Wg a0 a1=some r):Aw Go.Proofs.Tryz.prog 183 [O .i64 a0,O .i64 a1] (Ek r):=by
 unfold Wg at h
 cases hb:a1==10 with
 | false=>rw [hb] at h; cases h
 | true=>
  rw [hb] at h
  have hb:=eq_of_beq hb
  subst hb
  have h:Lo a0=some r:=h
  unfold Lo at h
  split at h
  .rename_i hc
   cases h
   refine ⟨⟨_,Tryz.func183,by kernel_rfl,by kernel_rfl⟩,fun σ F W w vs s b=>?_⟩
   obtain ⟨v,u,rfl,c,hu⟩:=Abs b
   have c:=c.val_inv
   have hu:=hu.val_inv
   subst c; subst hu
   have:=Any.strconv_FormatInt_10 Ap4 a0 hc.1 hc.2 w (Agw s)
   refine this.mono ?_
   rintro e w' ⟨rfl,k,os,rfl⟩
   exact ⟨_,σ,rfl,Aq.le_refl σ,s.grown k os,.of_val _⟩
  .cases h
theorem T7 (o:Bf) (os:List Bf):hp (o::os) 0=o:=rfl
theorem Ap6 (x:AV) (rest:List Bf):Br Go.Proofs.Tryz.prog 164 [.loc 0 0] (.cells 187 [.loc 0 0,x]::rest) (.tup []) (.cells 187 [.loc 0 0,x]::rest):=by
 refine ⟨⟨_,Tryz.func164,by kernel_rfl,by kernel_rfl⟩,fun σ F W w ι vs s f=>?_⟩
 obtain ⟨v,rfl,k⟩:=Q7 f
 obtain ⟨b,hb,k⟩:=k.loc_inv
 subst k
 have l:=s.obj 0
 unfold Cf at l
 rw [T7] at l
 obtain ⟨A,C,y,_,_,h3,u,z⟩:=l
 rw [hb] at y; cases y
 have u:C.size=2:=u
 have g:C[0]? = some C[0]:=by simp [u]
 have q:=z 0 (.loc 0 0) C[0] rfl g
 obtain ⟨b2,h,j⟩:=q.loc_inv
 rw [hb] at h; cases h
 have cell:w.cell? ⟨b,0,none⟩=some (.pointer (some ⟨b,0,none⟩)):=by
  rw [Hf h3,g,j]
 refine (Tryz.check_used b w cell).mono ?_
 rintro e w' ⟨rfl,rfl⟩
 exact ⟨_,σ,ι,rfl,Le.refl _ _ _,s,.tup _ _ rfl (fun i c v h1 _=>by cases h1)⟩
theorem Ap7 (x:AV) (rest:List Bf):Br Go.Proofs.Tryz.prog 164 [.loc 0 0] (.cells 187 [.val (.pointer none),x]::rest) (.tup []) (.cells 187 [.loc 0 0,x]::rest):=by
 refine ⟨⟨_,Tryz.func164,by kernel_rfl,by kernel_rfl⟩,fun σ F W w ι vs s j=>?_⟩
 obtain ⟨v,rfl,q⟩:=Q7 j
 obtain ⟨b,hb,q⟩:=q.loc_inv
 subst q
 have u:=s.obj 0
 unfold Cf at u
 rw [T7] at u
 obtain ⟨G,C,A,_,_,h3,g,z⟩:=u
 rw [hb] at A; cases A
 have g:C.size=2:=g
 have k:C[0]? = some C[0]:=by simp [g]
 have l:=(z 0 (.val (.pointer none)) C[0] rfl k).val_inv
 have cell:w.cell? ⟨b,0,none⟩=some (.pointer none):=by
  rw [Hf h3,k,l]
 refine (Tryz.check_fresh b w cell (by simp [World.shape?,h3,g]) (by simp [World.frozen?,h3])).mono ?_
 rintro e w' ⟨rfl,rfl⟩
 obtain ⟨s',le⟩:=s.setBox 0 187 [.val (.pointer none),x] [.loc 0 0,x] rfl b hb #[.pointer (some ⟨b,0,none⟩),C[1]] rfl (by
  intro i c v h1 h2
  match i with
  | 0=>simp at h1 h2; subst h1; subst h2; exact .loc 0 0 b hb
  | 1=>simp at h1 h2; subst h1; subst h2; exact z 1 x _ rfl (by simp [g])
  | i+2=>simp at h1)
 have D:Ax (hp (.cells 187 [.val (.pointer none),x]::rest)) 0 (.cells 187 [.loc 0 0,x])=hp (.cells 187 [.loc 0 0,x]::rest):=by
  funext i
  cases i with
  | zero=>rfl
  | succ i=>rfl
 have B:w.setCell ⟨b,0,none⟩ (.pointer (some ⟨b,0,none⟩))=w.setRow b #[.pointer (some ⟨b,0,none⟩),C[1]]:=by
  have h:C.setIfInBounds 0 (.pointer (some ⟨b,0,none⟩)) = #[.pointer (some ⟨b,0,none⟩),C[1]]:=by
   apply Array.ext
   .simp [g]
   .intro i E y
    match i with
    | 0=>simp
    | 1=>rw [Array.getElem_setIfInBounds_ne _ (by decide)]; rfl
    | i+2=>simp at y; omega
  have f:(w.setCell ⟨b,0,none⟩ (.pointer (some ⟨b,0,none⟩))).heap=(w.setRow b #[.pointer (some ⟨b,0,none⟩),C[1]]).heap:=by
   apply Array.ext_getElem?
   intro i
   simp only [World.setCell,World.setRow,Array.getElem?_modify]
   split
   .rename_i e; subst e
    rw [h3]; simp [h]
   .rfl
  unfold World.setCell World.setRow at f ⊢
  simp only at f
  rw [f]
 rw [D] at s' le
 rw [B]
 exact ⟨_,σ,ι,rfl,le,s',.tup _ _ rfl (fun i c v h1 _=>by cases h1)⟩
theorem Ap8 {l:List Int} (h:∀x∈l,0<=x/\x<256) {j:Nat} {x:UInt8} (hx:(Dr l)[j]? = some x):l[j]? = some (x.toNat:Int):=by
 simp only [Dr,List.getElem?_map,Option.map_eq_some_iff] at hx
 obtain ⟨y,hy,rfl⟩:=hx
 have b:=h y (List.mem_of_getElem? hy)
 rw [hy]
 congr 1
 have:y.toNat<256:=by omega
 simp only [UInt8.toNat_ofNat']
 omega
theorem St.kill {σ:Aq} {ι:Bm} {H:Hp} {F:Aq} {W w:World} (s:St σ ι H F W w) (h:Nat):St σ ι (Ax H h .dead) F W w/\Le σ ι H σ ι (Ax H h .dead):=by
 have le:Le σ ι H σ ι (Ax H h .dead):=by
  have:=Le.upd (ι:=ι) (H:=H) (Aq.le_refl σ) h (ι h) .dead ⟨fun _ e=>e,(fun _ e=>by cases e),(fun _ k j i e=>by cases e)⟩
  rwa [Gf] at this
 obtain ⟨f1,f2⟩:=s.fresh
 refine ⟨s.touch h w.heap.size (fun _ _=>rfl) (fun x e=>Cr _ _ e) le (fun _ _=>rfl) (fun _ _=>rfl) (fun o g=>by rw [f1] at g; cases g) ?_ f2 ?_ ?_ rfl rfl rfl,le⟩
 .intro x _ c f
  have:=(s.block c f).1
  omega
 .intro b c
  rw [B8] at c; cases c
 .unfold Cf
  rw [B8]; trivial
theorem St.fbox {σ:Aq} {ι:Bm} {H:Hp} {F:Aq} {W w:World} (s0:St σ ι H F W w) {T:TypeId} {p x:AV} {s:ByteArray} {b:Nat} {C:Array Value} (hh:H 0 = .cells T [p,x]) (hb:ι 0 = .box b) (h3:w.heap[b]? = some (.cells C T (0,0)))
  (hc:∀v,C[1]? = some v->CC σ (.fb s) v):St σ ι (Ax H 0 (.cells T [p,.fb s])) F W w/\Le σ ι H σ ι (Ax H 0 (.cells T [p,.fb s])):=by
 have f:=s0.obj 0
 unfold Cf at f
 rw [hh] at f
 obtain ⟨q,u,j,g1,g2,g3,g4,g5⟩:=f
 rw [hb] at j; cases j
 rw [h3] at g3; cases g3
 have le:Le σ ι H σ ι (Ax H 0 (.cells T [p,.fb s])):=by
  have:=Le.upd (ι:=ι) (H:=H) (Aq.le_refl σ) 0 (ι 0) (.cells T [p,.fb s]) (by rw [hh]; exact ⟨fun _ e=>e,(fun _ e=>by cases e),(fun _ _ _ _ e=>by cases e)⟩)
  rwa [Gf] at this
 refine ⟨s0.touch 0 b (fun _ _=>rfl) (fun x e=>Cr _ _ e) le (fun x e=>rfl) (fun _ _=>rfl) (fun o e=>by rw [g1] at e; cases e) ?_ g2 ?_ ?_ rfl rfl rfl,le⟩
 .intro x e k g
  exact e (s0.inj x 0 b k (by rw [hh]; rfl) g (by rw [hb]; rfl))
 .intro l _ h
  exact .inr ⟨by rw [hh]; rfl,h⟩
 .unfold Cf
  rw [B8]
  refine ⟨b,C,hb,g1,g2,h3,by simpa using g4,fun i c v x y=>?_⟩
  match i with
  | 0=>exact (g5 0 c v x y).mono le
  | 1=>cases x; exact .cc (hc v y)
  | i+2=>cases x
theorem Ap9 {p:AV}:Br Go.Proofs.Tryz.prog 111 [.loc 0 0] [.cells 187 [p,.arr 1 0 0 0],.rows 5 1 []] (Ek .empty) [.cells 187 [p,.fb .empty],.dead]:=by
 refine ⟨⟨_,Tryz.func111,by kernel_rfl,by kernel_rfl⟩,fun σ F W w ι vs s z=>?_⟩
 obtain ⟨v,rfl,j⟩:=Q7 z
 obtain ⟨b,hb,j⟩:=j.loc_inv
 subst j
 have M:=s.obj 0
 unfold Cf at M
 rw [T7] at M
 obtain ⟨b',C,Z,_,_,h3,B,h5⟩:=M
 rw [hb] at Z; cases Z
 have B:C.size=2:=B
 have hC:C = #[C[0],C[1]]:=by
  apply Array.ext
  .simp [B]
  .intro i X N
   match i with
   | 0=>rfl
   | 1=>rfl
   | i+2=>simp at N; omega
 have R:=h5 1 (.arr 1 0 0 0) C[1] rfl (by simp [B])
 have y:hp [Bf.cells 187 [p,.arr 1 0 0 0],.rows 5 1 []] 1 = .rows 5 1 []:=rfl
 have c:=R.arr_inv y (by simp)
 have hor:=s.obj 1
 unfold Cf at hor
 rw [y] at hor
 obtain ⟨_,V,hor⟩:=hor
 have eH:Ax (Ax (hp [Bf.cells 187 [p,.arr 1 0 0 0],.rows 5 1 []]) 1 .dead) 0 (.cells 187 [p,.fb .empty])=hp [Bf.cells 187 [p,.fb .empty],.dead]:=by
  funext i
  match i with
  | 0=>rfl
  | 1=>rfl
  | i+2=>rfl
 have go:∀(a q:Option Addr) (cap:Nat) (A:Aq) (k:World),C[1] = .slice a 0 cap->k.heap[b]? = w.heap[b]?->(Builtin.unsafeSliceData_ #[185] 244 #[.slice a 0 cap]).run Go.Proofs.Tryz.prog w.drew = .ok (.pointer q) k ->
   Le σ ι (hp [Bf.cells 187 [p,.arr 1 0 0 0],.rows 5 1 []]) A ι (hp [Bf.cells 187 [p,.arr 1 0 0 0],.rows 5 1 []])->St A ι (hp [Bf.cells 187 [p,.arr 1 0 0 0],.rows 5 1 []]) F W k ->
   Calls Go.Proofs.Tryz.prog 111 #[.pointer (some ⟨b,0,none⟩)] w fun e w'=>∃v E G,e = .returned v/\Le σ ι (hp [Bf.cells 187 [p,.arr 1 0 0 0],.rows 5 1 []]) E G (hp [Bf.cells 187 [p,.fb .empty],.dead])/\St E G (hp [Bf.cells 187 [p,.fb .empty],.dead]) F W w'/\Conc E G (hp [Bf.cells 187 [p,.fb .empty],.dead]) (Ek .empty) v:=by
  intro a q cap A k f x S le I
  have h:w.heap[b]? = some (.cells #[C[0],.slice a 0 cap] 187 (0,0)):=by
   rw [h3]; congr 1; rw [<-f,<-hC]
  refine (Tryz.builder_str0 b cap C[0] a q w k h (x.trans h) S).mono ?_
  rintro e w' ⟨rfl,rfl⟩
  obtain ⟨s2,J⟩:=I.kill 1
  obtain ⟨U,u⟩:=s2.fbox (b:=b) (C:=#[C[0],.slice a 0 cap]) (s:=.empty) (by rfl) hb ((x.trans h)) (fun v j=>by simp at j; subst j; exact .fbn _ _ _ rfl)
  rw [eH] at U u
  exact ⟨_,A,ι,rfl,(le.trans J).trans u,U,.of_val _⟩
 rcases hor with ⟨X,_⟩ | ⟨g,l,D,hg,g1,g2,g3,g4,g5,g6⟩
 .unfold E4 at c
  rw [X] at c
  exact go none none 0 σ w.drew c.1 rfl rfl (Le.refl _ _ _) (s.drew _)
 .unfold E4 at c
  rw [hg] at c
  simp only [Nat.zero_mul,Nat.zero_add,Nat.sub_zero] at c
  obtain ⟨_,f⟩:=c
  by_cases ht:l=0
  .subst ht
   obtain ⟨I,L⟩:=(s.drew (w.drawn+1)).newFrozen (.view ⟨g,0,none⟩ 5)
   have Y:=(Array.getElem?_eq_some_iff.1 h3).1
   refine go _ _ 0 _ (w.drew.alloc (.view ⟨g,0,none⟩ 5)) f ?_ (Lib.run_unsafeSliceData_zero _ _ _ 5 Go.Proofs.Tryz.underlying244 _ _ (5,D.size) (by
    have:w.drew.heap[g]? = some (.cells D 5 (0,0)):=g3
    simp [World.shape?,this])) L I
   show (w.heap.push _)[b]? = _
   rw [Array.getElem?_push,if_neg (by omega)]
  .exact go _ _ l σ w.drew f rfl (Lib.run_unsafeSliceData_row _ _ _ _ _ _ ht) (Le.refl _ _ _) (s.drew _)
theorem Agx {p:AV} {l:List Int} {r:ByteArray} (h:Sj l=some r):Br Go.Proofs.Tryz.prog 111 [.loc 0 0] [.cells 187 [p,.arr 1 l.length 0 l.length],.rows 5 1 (List.map (O .u8) l)] (Ek r) [.cells 187 [p,.fb r],.dead]:=by
 unfold Sj at h
 split at h
 .rename_i aa
  cases h
  by_cases u:l = []
  .subst u; exact Ap9
  refine ⟨⟨_,Tryz.func111,by kernel_rfl,by kernel_rfl⟩,fun σ F W w ι vs s S=>?_⟩
  obtain ⟨v,rfl,A⟩:=Q7 S
  obtain ⟨b,hb,A⟩:=A.loc_inv
  subst A
  have B:=s.obj 0
  unfold Cf at B
  rw [T7] at B
  obtain ⟨b',C,e1,_,_,h3,Y,h5⟩:=B
  rw [hb] at e1; cases e1
  have Y:C.size=2:=Y
  have hC:C = #[C[0],C[1]]:=by
   apply Array.ext
   .simp [Y]
   .intro i hi a7
    match i with
    | 0=>rfl
    | 1=>rfl
    | i+2=>simp at a7; omega
  have a8:=h5 1 (.arr 1 l.length 0 l.length) C[1] rfl (by simp [Y])
  have N:hp [Bf.cells 187 [p,.arr 1 l.length 0 l.length],.rows 5 1 (List.map (O .u8) l)] 1 = .rows 5 1 (List.map (O .u8) l):=rfl
  have y:=a8.arr_inv N (by simp)
  have hor:=s.obj 1
  unfold Cf at hor
  rw [N] at hor
  obtain ⟨_,M,hor⟩:=hor
  rw [List.length_map] at M
  rcases hor with ⟨_,J⟩ | ⟨g,q,D,hg,g1,g2,g3,g4,g5,g6⟩
  .exact (u (by simpa using J)).elim
  .rw [List.length_map] at g5
   unfold E4 at y
   rw [hg] at y
   simp only [Nat.zero_mul,Nat.zero_add,Nat.sub_zero] at y
   obtain ⟨ht,I⟩:=y
   have c:(Dr l).length=l.length:=by simp [Dr]
   have f:∀(j:Nat) (x:UInt8),(Dr l)[j]? = some x->D[j]? = some (Value.int .u8 x.toNat):=by
    intro j x hx
    have hj:=Ap8 aa hx
    obtain ⟨gg,q1,q2,q3⟩:=g6
    have G:(List.map (O .u8) l)[j]? = some (O .u8 x.toNat):=by rw [List.getElem?_map,hj]; rfl
    have a1:j<(List.map (O .u8) l).length:=(List.getElem?_eq_some_iff.1 G).1
    have q4:=q3 j 0 a1 (by omega)
    have q5:=(q2 j _ 0 _ G rfl).1
    have:gg j 0=Value.int .u8 x.toNat:=by
     generalize gg j 0=z at q5
     cases q5; rfl
    rw [this] at q4
    simpa using q4
   have U:w.heap[b]? = some (.cells #[C[0],.slice (some ⟨g,0,none⟩) (Dr l).length q] 187 (0,0)):=by
    rw [h3]; congr 1; rw [c]
    have:C[1] = .slice (some ⟨g,0,none⟩) l.length q:=I
    rw [<-this,<-hC]
   have V:l.length<=D.size:=by rw [g4]; omega
   have call:=Tryz.builder_str b g q C[0] D (Dr l) w (by intro e; apply u; rw [<-List.length_eq_zero_iff,<-c,e]; rfl) U g3 (by rw [c]; exact g5) (by rw [c]; exact V) (by rw [c]; omega) f
   refine call.mono ?_
   rintro e w' ⟨rfl,rfl⟩
   have L:(Dr l).length≠0:=by rw [c]; simpa using u
   have a6:σ.le (Ax σ g (some (.cells D 5 (0,(Dr l).length)))):=by
    intro b' o' hb'
    rw [Cr _ _ (by intro e; subst e; rw [g1] at hb'; cases hb')]; exact hb'
   have Z:(w.drew.freeze ⟨g,0,none⟩ (Dr l).length).heap[g]? = some (.cells D 5 (0,(Dr l).length)):=by
    unfold World.freeze
    rw [if_neg L]
    simp only [Array.getElem?_modify,if_true]
    have:w.drew.heap[g]? = some (.cells D 5 (0,0)):=g3
    rw [this]
    simp
   have R:∀b,b≠g->(w.drew.freeze ⟨g,0,none⟩ (Dr l).length).heap[b]? = w.heap[b]?:=by
    intro b hb
    unfold World.freeze
    split
    .rfl
    .simp only [Array.getElem?_modify]
     rw [if_neg (Ne.symm hb)]; rfl
   have le:Le σ ι (hp [Bf.cells 187 [p,.arr 1 l.length 0 l.length],.rows 5 1 (List.map (O .u8) l)]) (Ax σ g (some (.cells D 5 (0,(Dr l).length)))) ι (Ax (hp [Bf.cells 187 [p,.arr 1 l.length 0 l.length],.rows 5 1 (List.map (O .u8) l)]) 1 .dead):=by
    have:=Le.upd (ι:=ι) (H:=hp [Bf.cells 187 [p,.arr 1 l.length 0 l.length],.rows 5 1 (List.map (O .u8) l)]) a6 1 (ι 1) .dead ⟨fun _ e=>e,(fun _ e=>by cases e),(fun _ E1 ae ad e=>by cases e)⟩
    rwa [Gf] at this
   have eH:Ax (Ax (hp [Bf.cells 187 [p,.arr 1 l.length 0 l.length],.rows 5 1 (List.map (O .u8) l)]) 1 .dead) 0 (.cells 187 [p,.fb ⟨(Dr l).toArray⟩])=hp [Bf.cells 187 [p,.fb ⟨(Dr l).toArray⟩],.dead]:=by
    funext i
    match i with
    | 0=>rfl
    | 1=>rfl
    | i+2=>rfl
   have ac:b≠g:=by
    intro e
    have:=s.inj 0 1 g rfl rfl (by rw [hb,e]; rfl) (by rw [hg]; rfl)
    cases this
   have s2:St (Ax σ g (some (.cells D 5 (0,(Dr l).length)))) ι (Ax (hp [Bf.cells 187 [p,.arr 1 l.length 0 l.length],.rows 5 1 (List.map (O .u8) l)]) 1 .dead) F W (w.drew.freeze ⟨g,0,none⟩ (Dr l).length):=by
    refine s.touch (hdrw:=by unfold World.freeze; split <;> exact Nat.le_succ _) 1 g (fun _ _=>rfl) (fun x e=>Cr _ _ e) le R (fun x e=>Cr _ _ e) (fun o B=>by rw [B8] at B; cases B; exact Z) ?_ g2 ?_ ?_ ?_ ?_ ?_
    .intro x hx X ab
     exact hx (s.inj x 1 g X rfl ab (by rw [hg]; rfl))
    .intro b0 X
     rw [B8] at X; cases X
    .unfold Cf
     rw [B8]; trivial
    .unfold World.freeze; split <;> rfl
    .unfold World.freeze; split <;> rfl
    .unfold World.freeze; split <;> rfl
   obtain ⟨s3,E⟩:=s2.fbox (b:=b) (C:=#[C[0],.slice (some ⟨g,0,none⟩) (Dr l).length q]) (s:=⟨(Dr l).toArray⟩) (by rfl) hb ((R b ac).trans U) (fun v A=>by
    simp only [List.getElem?_toArray,List.getElem?_cons_succ,List.getElem?_cons_zero,Option.some.injEq] at A
    subst A
    have k:(ByteArray.mk (Dr l).toArray).size=(Dr l).length:=by simp [ByteArray.size]
    rw [<-k]
    refine .fb _ g q D (by rw [B8,k]) (by rw [k]; exact L) (by rw [k,c]; omega) (by rw [k,c]; exact V) (by rw [k,c]; omega) (fun j x hx=>f j x (by simpa using hx)))
   rw [eH] at s3 E
   exact ⟨_,_,ι,rfl,le.trans E,s3,.of_val _⟩
 .cases h
theorem Agy {p:AV} {f r:ByteArray} (h:(bif Nat.beq f.size 0 then none else some f)=some r):Br Go.Proofs.Tryz.prog 111 [.loc 0 0] [.cells 187 [p,.fb f]] (Ek r) [.cells 187 [p,.fb f]]:=by
 have q:r.size≠0/\f=r:=by
  cases hb:Nat.beq f.size 0 with
  | true=>rw [hb] at h; cases h
  | false=>rw [hb] at h; cases h; exact ⟨(fun e=>by rw [e] at hb; exact Bool.noConfusion hb),rfl⟩
 clear h
 obtain ⟨q,E⟩:=q
 subst E
 refine ⟨⟨_,Tryz.func111,by kernel_rfl,by kernel_rfl⟩,fun σ F W w ι vs s y=>?_⟩
 obtain ⟨v,rfl,B⟩:=Q7 y
 obtain ⟨b,hb,B⟩:=B.loc_inv
 subst B
 have G:=s.obj 0
 unfold Cf at G
 rw [T7] at G
 obtain ⟨b',C,S,_,_,h3,A,X⟩:=G
 rw [hb] at S; cases S
 have A:C.size=2:=A
 have N:C = #[C[0],C[1]]:=by
  apply Array.ext
  .simp [A]
  .intro i J I
   match i with
   | 0=>rfl
   | 1=>rfl
   | i+2=>simp at I; omega
 have l:=X 1 (.fb f) C[1] rfl (by simp [A])
 generalize C[1]=u at N l
 generalize C[0]=U at N
 subst N
 cases l with
 | cc l=>
  cases l with
  | fbn _ a cap h0=>exact (q h0).elim
  | fb _ g cap D V h0 z M Z L=>
   have R:=s.sto _ _ V
   have k:f.data.toList.length=f.size:=by rw [Array.length_toList]; rfl
   have call:=Tryz.builder_str b g cap U D f.data.toList w (by intro e; rw [e] at k; exact h0 k.symm) (by rw [k]; exact h3) R (by rw [k]; exact z) (by rw [k]; exact M) (by rw [k]; omega) (fun j x hx=>L j x (by simpa using hx))
   refine call.mono ?_
   rintro e w' ⟨rfl,rfl⟩
   have hw:w.drew.freeze ⟨g,0,none⟩ f.data.toList.length=w.drew:=by
    unfold World.freeze
    split
    .rfl
    .have:w.drew.heap.modify g (fun o=>match o with | .cells c elem (lo,J)=>.cells c elem (if lo==J then (0,0+f.data.toList.length) else (min lo 0,max J (0+f.data.toList.length))) | o=>o)=w.drew.heap:=by
      apply Array.ext_getElem?
      intro i
      rw [Array.getElem?_modify]
      split
      .rename_i e
       subst e
       have:w.drew.heap[g]? = some (.cells D 5 (0,f.size)):=R
       rw [this]
       simp [k,Ne.symm h0]
      .rfl
     exact congrArg (fun h=>{w.drew with heap:=h}) this
   rw [hw]
   have Y:(⟨f.data.toList.toArray⟩:ByteArray)=f:=by simp
   rw [Y]
   exact ⟨_,σ,ι,rfl,Le.refl _ _ _,s.drew _,.of_val _⟩
end Go.Ab
namespace Go.Ab
open Go Go.Proofs
set_option linter.unusedVariables false
class OK {α:Type} (o:Option α) (G:outParam (α->Prop)):Prop where
 ok:∀{r:α},o=some r->G r
theorem okz {α:Type} {G:α->Prop}:OK (none:Option α) G:=⟨fun h=>by cases h⟩
section
variable {P:Program} {C:Cfg} {Qn:Nat->Bj->Hp->Prop} {Qe:Nat->Nat->Bj->Hp->Prop} {Qr:Nat->Bj->Hp->Prop} {n:Nat} {e:Bj} {H:Hp} {β:Type} {r:β}
variable {T:Cj} {an:Nat->Ann} {nl:Nat->List (Nat×Nat)} {ops:Array Oper} {o:Oper} {os:List Oper} {acc:Gi} {K:Nat->Bj->Hp->Gi->Prop}
theorem Fq {p:Nat×Bool} {s:Nat} {b:Bool} {m m':Option β} (h:(bif b then m else m')=some r) (h1:b=true->m=some r->D5 (Dz P T an nl ops (o::os) n (Ax e s (.val (.bool true))) H acc K))
  (h2:b=false->m'=some r->D5 (Dz P T an nl ops (o::os) n (Ax e s (.val (.bool false))) H acc K)) (hg:o.guard=some p:=by exact rfl) (hs:(ops[p.1]?).bind (·.dst)=some s:=by exact rfl) (hb:e s = .val (.bool b):=by exact rfl):D5 (Dz P T an nl ops (o::os) n e H acc K):=Apc h h1 h2 hb
theorem nw {c:Code} (k:wc P C c Qn Qe Qr n e H):D5 (wc P C c Qn Qe Qr n e H):=.mk k
theorem B9 {S E:Type} {o:S⊕E} {J:E->Option β} {x:E} (h:some (Sum.inr x)=some o) (hx:∀x,Sum.inr x=o->J x=some r:=by assumption):J x=some r:=hx x (Option.some.inj h)
theorem lpj {S:Type} {o:S} {J:S->Option β} {x:S} (h:some x=some o) (hx:∀y,y=o->J y=some r:=by assumption):J x=some r:=hx x (Option.some.inj h)
theorem lpn {S E:Type} {o:S⊕E} {s':S} {K:Nat->Bj->Hp->Prop} {iv:S->List (Nat×AV)} {hv:S->List (Nat×Bf)} {inv:S->Prop} {n0:Nat} {H0:Hp} (h:some (Sum.inl s')=some o) (hn:∀s' n' e' H',Sum.inl s'=o->Fm e' (iv s')->Fo H' (Cd H0 (hv s')) n0 n0->inv s'->K n' e' H':=by assumption)
  (hs:Fm e (iv s'):=by (repeat refine ⟨rfl,?_⟩); exact trivial) (hh:Fo H (Cd H0 (hv s')) n0 n0:=by (repeat refine ⟨⟨rfl,rfl⟩,?_⟩); exact trivial) (hi:inv s':=by first | trivial | exact rfl | ((repeat refine Gd ?_ _ _); first | exact rfl | assumption)):K n e H:=hn s' n e H (Option.some.inj h) hs hh hi
theorem jnn {S E:Type} {o x:E} {s:S} {J:S->Prop} {K:Nat->Bj->Hp->Prop} {iv:S->List (Nat×AV)} {hv:S->List (Nat×Bf)} {n0:Nat} {H0:Hp} (h:some x=some o) (hn:∀s n' e' H',J s->Fm e' (iv s)->Fo H' (Cd H0 (hv s)) n0 n0->K n' e' H':=by assumption) (hJ:J s:=by exact Option.some.inj h)
  (hs:Fm e (iv s):=by (repeat refine ⟨rfl,?_⟩); exact trivial) (hh:Fo H (Cd H0 (hv s)) n0 n0:=by (repeat refine ⟨⟨rfl,rfl⟩,?_⟩); exact trivial):K n e H:=hn s n e H hJ hs hh
theorem Bh {α:Type} {o:Option α} {m:α->Option β} {f:FuncId} {args:List AV} {G:α->Prop} {ra:α->AV} {K:Eff->Nat->Prop} (h:o.bind m=some r) [i:OK o G] (k:∀v,m v=some r->K ⟨ra v,[],[]⟩ n) (hG:∀v,G v->Aw P f args (ra v):=by exact fun _ h=>h) (hf:args.all AV.free=true:=by exact rfl):Fy P n H f args K :=
 C5 h fun v hv h=>Fy.mk _ (hG v (i.ok hv)) hf (k v h)
theorem Agz {α:Type} {o:Option α} {m:α->Option β} {f:FuncId} {args args':List AV} {G:α->Prop} {ra:α->AV} {K:Eff->Nat->Prop} (h:o.bind m=some r) [i:OK o G] (k:∀v,m v=some r->K ⟨ra v,[],[]⟩ n) (hG:∀v,G v->Aw P f args' (ra v):=by exact fun _ h=>h) (hs:Mj args args':=by (repeat first | refine ⟨Sub.refl _,?_⟩ | refine ⟨Sub.nil _,?_⟩); exact trivial) (hf:args.all AV.free=true:=by exact rfl):Fy P n H f args K :=
 C5 h fun v hv h=>Fy.mk _ (Aw.sub (hG v (i.ok hv)) hs (Sub.refl _)) hf (k v h)
theorem A9 {α:Type} {o:Option α} {m:α->Option β} {f:FuncId} {args largs:List AV} {G:α->Prop} {ra:α->AV} {hs:List Bf} {hs':α->List Bf} {K:Eff->Nat->Prop} (l:List Nat) (h:o.bind m=some r) [i:OK o G] (k:∀v,m v=some r->K ⟨ren (Df n l) (ra v),wrs (Df n l) 0 hs++Bz (Df n l) l.length ((hs' v).length-l.length),wrs (Df n l) 0 (hs' v)⟩ (n+((hs' v).length-l.length)))
  (hG:∀v,G v->Br P f largs hs (ra v) (hs' v):=by exact fun _ h=>h) (ha:largs.map (ren (Df n l))=args:=by exact rfl) (ok:∀v,Po n l largs hs (ra v) (hs' v)=true:=by exact fun _=>rfl) (hh:Nv H (wrs (Df n l) 0 hs):=by (repeat refine ⟨rfl,?_⟩); exact trivial):Fy P n H f args K :=
 C5 h fun v hv h=>Fy.act l largs hs (ra v) (hs' v) (hG v (i.ok hv)) ha (ok v) hh (k v h)
theorem Bx {α:Type} {l:List α} {f:α->AV} {ys:List AV} {i:Int} {m:α->Option β} {K:Nat->AV->Prop} (h:(Af l i).bind m=some r) (k:∀(n:Nat) (x:α),i=n->l[n]? = some x->m x=some r->K n (f x)) (he:ys=l.map f:=by first | exact rfl | exact Kj _ | exact Kl _):Sa ys i K:=Ape he h k
theorem I4 {α:Type} {l:List α} {f:α->AV} {ys:List AV} {i:Int} {m:α->Option β} {K:Nat->Prop} {len kk:Nat} (h:(Af l i).bind m=some r) (k:∀(n:Nat) (x:α),i=n->l[n]? = some x->m x=some r->K n) (he:ys=l.map f:=by first | exact rfl | exact Kj _ | exact Kl _) (hl:len=l.length:=by first | exact rfl | assumption | exact Hn (by assumption) | ((repeat refine Gd ?_ _ _); first | exact rfl | assumption)) (hk:kk=l.length:=by first | exact rfl | assumption | exact Hn (by assumption) | ((repeat refine Gd ?_ _ _); first | exact rfl | assumption)):Nw len kk ys i K:=Apf he hl hk h k
theorem Q8 {α:Type} {l:List α} {f:α->AV} {ys:List AV} {i:Int} {m:α->Option β} {K:Nat->Prop} {off len kk:Nat} (h:(Hm l off len i).bind m=some r) (k:∀(n:Nat) (x:α),i=n->l[off+n]? = some x->m x=some r->K n) (he:ys=l.map f:=by first | exact rfl | exact Kj _ | exact Kl _) (hk:kk=l.length:=by first | exact rfl | assumption | exact Hn (by assumption) | ((repeat refine Gd ?_ _ _); first | exact rfl | assumption)):Nw len kk ys i K:=Apg he hk h k
theorem M4 {α:Type} {l:List α} {f:α->AV} {ys:List AV} {K:Int->Prop} (k:K (l.length:Int)) (he:ys=l.map f:=by first | exact rfl | exact Kj _ | exact Kl _):J5 ys K:=Apo he k
theorem M5 {α:Type} {l:List α} {f:α->AV} {ys:List AV} {kk:Nat} {K:Prop} (k:K) (he:ys=l.map f:=by first | exact rfl | exact Kj _ | exact Kl _) (hk:kk=l.length:=by first | exact rfl | assumption | exact Hn (by assumption) | ((repeat refine Gd ?_ _ _); first | exact rfl | assumption)):Fa kk ys K:=App he hk k
theorem M6 {K:Prop} (k:K):Fa 0 [] K:=.mk rfl k
theorem M7 {α:Type} {l:List α} {f:α->AV} {ys:List AV} {n i kk:Nat} {x:α} {K:AV->Prop} (k:K (f x)) (he:ys=l.map f:=by first | exact rfl | exact Kj _ | exact Kl _) (hk:kk=l.length:=by first | exact rfl | assumption | exact Hn (by assumption) | ((repeat refine Gd ?_ _ _); first | exact rfl | assumption)) (hi:i=n/\l[n]? = some x:=by first | exact ⟨Nat.zero_add _,by assumption⟩ | exact ⟨rfl,by assumption⟩):Jk kk i ys K:=Api he hk hi.1 hi.2 k
theorem Ag0 {α:Type} {l:List α} {f:α->AV} {ys:List AV} {n i:Nat} {j:Int} {x:α} {p:AV} {K:List AV->Prop} (k:K ((Cl l j x).map f)) (he:ys=l.map f:=by first | exact rfl | exact Kj _ | exact Kl _) (hp:p=f x:=by exact rfl) (hi:i=n/\j=(n:Int):=by first | exact ⟨Nat.zero_add _,by assumption⟩ | exact ⟨rfl,by assumption⟩ | exact ⟨rfl,Apd _ (by assumption)⟩):Sb ys i p K:=Lp he hp hi.1 hi.2 k
theorem M8 {α:Type} {l ys:List α} {f:α->AV} {xs zs:List AV} {b kk len:Nat} {m:List α->Option β} {K:List AV->Nat->Prop} {KP:List AV->Nat->Nat->Prop} (h:(B4 b l ys).bind m=some r) (k:∀o:List α,m o=some r->K (o.map f) o.length) (he:xs=l.map f/\zs=ys.map f:=by first | exact ⟨rfl,rfl⟩ | (refine ⟨?_,?_⟩; rotate_left; exact rfl; exact rfl)) (hk:kk=l.length:=by first | exact rfl | assumption | exact Hn (by assumption) | ((repeat refine Gd ?_ _ _); first | exact rfl | assumption)) (hl:len=l.length:=by first | exact rfl | assumption | exact Hn (by assumption) | ((repeat refine Gd ?_ _ _); first | exact rfl | assumption)):Kz xs zs kk len b K KP:=Aaq he.1 he.2 hk hl h k
theorem Ag1 {l:List Int} {s:ByteArray} {xs:List AV} {b kk len:Nat} {m:List Int->Option β} {K:List AV->Nat->Prop} {KP:List AV->Nat->Nat->Prop} (h:(B4 b l (Ka s)).bind m=some r) (k:∀o:List Int,m o=some r->K (o.map fun n=>.val (.int .u8 n)) o.length) (he:xs=l.map fun n=>.val (.int .u8 n):=by exact rfl) (hk:kk=l.length:=by first | exact rfl | assumption | exact Hn (by assumption) | ((repeat refine Gd ?_ _ _); first | exact rfl | assumption)) (hl:len=l.length:=by first | exact rfl | assumption | exact Hn (by assumption) | ((repeat refine Gd ?_ _ _); first | exact rfl | assumption)):Kz xs (G0 s) kk len b K KP:=Apk he hk hl h k
class GL {α:Type} (g:List α->List AV) (f:outParam (α->AV)):Prop where
 eq:∀l,g l=l.map f
instance:GL Bl Fp:=⟨Kj⟩
instance:GL Hr F7:=⟨Kl⟩
theorem Ag2 {α:Type} {g:List α->List AV} {f:α->AV} [i:GL g f] {l ys:List α} {zs:List AV} {b kk len:Nat} {m:List α->Option β} {K:List AV->Nat->Prop} {KP:List AV->Nat->Nat->Prop} (h:(B4 b l ys).bind m=some r) (k:∀o:List α,m o=some r->K (g o) o.length) (hz:zs=ys.map f:=by first | exact rfl | exact GL.eq _) (hk:kk=l.length:=by first | exact rfl | assumption | exact Hn (by assumption) | ((repeat refine Gd ?_ _ _); first | exact rfl | assumption)) (hl:len=l.length:=by first | exact rfl | assumption | exact Hn (by assumption) | ((repeat refine Gd ?_ _ _); first | exact rfl | assumption)):Kz (g l) zs kk len b K KP:=Apl i.eq (i.eq l) hz hk hl h k
theorem Ag3 {α:Type} {ys:List α} {f:α->AV} {zs:List AV} {b:Nat} {m:List α->Option β} {K:List AV->Nat->Prop} (h:(B4 b [] ys).bind m=some r) (k:∀o:List α,m o=some r->K (o.map f) o.length) (hz:zs=ys.map f:=by exact rfl):Ny zs b K:=Af1 hz h k
theorem Ag4 {α:Type} {g:List α->List AV} {f:α->AV} [i:GL g f] {ys:List α} {zs:List AV} {b:Nat} {m:List α->Option β} {K:List AV->Nat->Prop} (h:(B4 b [] ys).bind m=some r) (k:∀o:List α,m o=some r->K (g o) o.length) (hz:zs=g ys:=by exact rfl):Ny zs b K:=Apm i.eq (hz.trans (i.eq ys)) h k
theorem Ge {α:Type} {z:α} {f:α->AV} {za:AV} {len cap:Int} {b:Nat} {m:List α->Option β} {K:Nat->List AV->Prop} (h:(Ei b len cap z).bind m=some r) (k:∀o:List α,m o=some r->K o.length (o.map f)) (hz:za=f z:=by first | exact (rfl:_=O _ _) | exact (rfl:_=Ar _) | exact rfl):Pp len cap b za K:=Apn hz h k
theorem Km {α:Type} {l:List α} {f:α->AV} {ys:List AV} {lo hi:Int} {m:List α->Option β} {K:List AV->Prop} (h:(D0 l lo hi).bind m=some r) (k:∀l':List α,m l'=some r->K (l'.map f)) (he:ys=l.map f:=by first | exact rfl | exact Kj _ | exact Kl _):Nx ys lo hi K:=Af0 he h k
theorem Xk {α:Type} {l:List α} {f:α->AV} {ys:List AV} {lo:Int} {m:List α->Option β} {K:List AV->Prop} (h:(D0 l lo l.length).bind m=some r) (k:∀l':List α,m l'=some r->K (l'.map f)) (he:ys=l.map f:=by first | exact rfl | exact Kj _ | exact Kl _):Nx ys lo ys.length K:=Apj he h k
theorem Ep {S E:Type} {step:S->Option (S⊕E)} {s0:S} {J:E->Option β} {b:Code} (h:(Al step s0).bind J=some r) (iv:S->List (Nat×AV)) (hv:S->List (Nat×Bf)) (inv:S->Prop)
  (body:∀(s:S) (u:Nat->Value) (K:Nat->Bj->Hp->Prop) (o:S⊕E),step s=some o->(∀x,.inr x=o->J x=some r)->(∀s' n' e' H',.inl s'=o->Fm e' (iv s')->Fo H' (Cd H (hv s')) n n->inv s'->K n' e' H')->inv s ->
   wc P C b K Qe Qr n (H4 (Ec b) e u (iv s)) (Cd H (hv s)))
  (hb:∀s,Iv n (iv s) (hv s)=true:=by exact fun _=>rfl) (hs:Fm e (iv s0):=by (repeat refine ⟨rfl,?_⟩); exact trivial) (hh:Fo H (Cd H (hv s0)) n n:=by (repeat refine ⟨⟨rfl,rfl⟩,?_⟩); exact trivial) (h0:inv s0:=by first | exact rfl | assumption | exact Hn (by assumption) | ((repeat refine Gd ?_ _ _); first | exact rfl | assumption)):wc P C (.loop b) Qn Qe Qr n e H:=Aga h iv hv inv hb hs hh h0 body
theorem A5 {S E:Type} {step:S->Option (S⊕E)} {s0:S} {J:E->Option β} {b:Code} (h:(Al step s0).bind J=some r) (iv:S->List (Nat×AV)) (hv:S->List (Nat×Bf))
  (body:∀(s:S) (u:Nat->Value) (K:Nat->Bj->Hp->Prop) (o:S⊕E),step s=some o->(∀x,.inr x=o->J x=some r)->(∀s' n' e' H',.inl s'=o->Fm e' (iv s')->Fo H' (Cd H (hv s')) n n->True->K n' e' H') ->
   wc P C b K Qe Qr n (H4 (Ec b) e u (iv s)) (Cd H (hv s)))
  (hb:∀s,Iv n (iv s) (hv s)=true:=by exact fun _=>rfl) (hs:Fm e (iv s0):=by (repeat refine ⟨rfl,?_⟩); exact trivial) (hh:Fo H (Cd H (hv s0)) n n:=by (repeat refine ⟨⟨rfl,rfl⟩,?_⟩); exact trivial):wc P C (.loop b) Qn Qe Qr n e H:=Aga h iv hv (fun _=>True) hb hs hh trivial fun s u K o h1 h2 h3 _=>body s u K o h1 h2 h3
theorem Xl {S S':Type} {c:Code} {o:Option S'} {m:S'->Option β} (inj:S->S') (h:o.bind m=some r) (iv:S->List (Nat×AV)) (hv:S->List (Nat×Bf))
  (k1:∀x,o=some x->∀(K:Nat->Bj->Hp->Prop),(∀s n' e' H',inj s=x->Fm e' (iv s)->Fo H' (Cd H (hv s)) n n->K n' e' H')->(∀y,y=x->m y=some r)->wc P C c K Qe Qr n e H)
  (k2:∀(s:S) (u:Nat->Value),m (inj s)=some r->Qn n (H4 (Ec c) e u (iv s)) (Cd H (hv s))) (hb:∀s,Iv n (iv s) (hv s)=true:=by exact fun _=>rfl):wc P C c Qn Qe Qr n e H :=
 Afx h fun x hx hj=>P0 (fun s=>inj s=x) iv hv hb (fun K hK=>k1 x hx K hK hj) fun s u hs=>k2 s u (hj _ hs)
theorem Cg {S:Type} {c:Code} {o:Option S} {m:S->Option β} (h:o.bind m=some r) (iv:S->List (Nat×AV)) (hv:S->List (Nat×Bf))
  (k1:∀x,o=some x->∀(K:Nat->Bj->Hp->Prop),(∀s n' e' H',s=x->Fm e' (iv s)->Fo H' (Cd H (hv s)) n n->K n' e' H')->(∀y,y=x->m y=some r)->wc P C c K Qe Qr n e H)
  (k2:∀(s:S) (u:Nat->Value),m s=some r->Qn n (H4 (Ec c) e u (iv s)) (Cd H (hv s))) (hb:∀s,Iv n (iv s) (hv s)=true:=by exact fun _=>rfl):wc P C c Qn Qe Qr n e H:=Xl (fun s=>s) h iv hv k1 k2 hb
abbrev C0:Cfg:={T:=Ce,an:=fun _=>.ask}
theorem pw {f:FuncId} {fn:Func} {c:Code} {args:List AV} {r:AV} (C:Cfg) (hf:Go.Proofs.Tryz.prog.funcs[f]? = some fn) (hv:wc Go.Proofs.Tryz.prog C c (fun _ e H=>N1 C.T fn.results.toList (· = r) e H) (fun _ _ _ _=>False) (fun _ e H=>N1 C.T fn.results.toList (· = r) e H) 0 (Pv args) H0)
   (hT:C.T=Ce:=by exact rfl) (hb:fn.body=some c:=by exact rfl) (hname:(fn.name == "runtime.NumGoroutine")=false:=by kernel_rfl) (hok:Px fn c args.length=true:=by kernel_rfl) (hfree:r.free=true:=by exact rfl):Aw Go.Proofs.Tryz.prog f args r:=Aps (by rw [hT]; exact Agd) Sf hf hb hname hok hfree hv
theorem aw {f:FuncId} {fn:Func} {c:Code} {args:List AV} {r:AV} {hs hs':List Bf} (C:Cfg) (fz:Bool) (hf:Go.Proofs.Tryz.prog.funcs[f]? = some fn) (hv:wc Go.Proofs.Tryz.prog C c (fun _ e H=>N4 C.T fz fn.results.toList r hs' e H) (fun _ _ _ _=>False) (fun _ e H=>N4 C.T fz fn.results.toList r hs' e H) hs.length (Pv args) (hp hs))
   (hT:C.T=Ce:=by exact rfl) (hb:fn.body=some c:=by exact rfl) (hname:(fn.name == "runtime.NumGoroutine")=false:=by kernel_rfl) (hok:Px fn c args.length=true:=by kernel_rfl) (hok':Aal hs r hs'=true:=by exact rfl):Br Go.Proofs.Tryz.prog f args hs r hs':=Apt fz (by rw [hT]; exact Agd) Sf hf hb hname hok hok' hv
end
theorem opk {P:Program} {T:Cj} {an:Nat->Ann} {nl:Nat->List (Nat×Nat)} {o:Oper} {n:Nat} {e:Bj} {H:Hp} {acc:Gi} {K:Nat->Bj->Hp->Gi->Prop} (k:opK P T an nl o n e H acc K):opK P T an nl o n e H acc K:=k
theorem cnd {t:Bool} {A B:Prop} (k:bif t then A else B):bif t then A else B:=k
structure Hd (Q:Prop):Prop where
 get:Q
theorem Z {P Q:Prop} (k:Q) (h:Hd Q->P:=by
  intro q
  repeat first
    | ((with_reducible show D5 (Dz _ _ _ _ _ (_::_) _ _ _ _ _)); (first | refine nx ?_ | refine Ml ?_ | refine Mk ?_))
    | ((with_reducible refine opk ?_); conv=>whnf
       first
      | ((with_reducible show D5 _); refine nw ?_)
      | ((with_reducible show F5 _ _ _); refine F5.mk _ rfl ?_)
      | ((with_reducible show J5 _ _); refine M4 ?_)
      | ((with_reducible show Jk _ _ _ _); refine M7 ?_)
      | ((with_reducible show Fa _ _ _); (first | refine M5 ?_ | refine M6 ?_)))
    | ((with_reducible show D5 (Dz _ _ _ _ _ [] _ _ _ _ _)); refine Jp ?_)
    | ((with_reducible show D5 (wc _ _ _ _ _ _ _ _ _)); refine nw ?_)
    | with_reducible refine Ay ?_
    | with_reducible refine Bw ?_
    | with_reducible refine Aav ?_
    | with_reducible refine Mn ?_
    | with_reducible refine Ix ?_
    | with_reducible refine Ez ?_
    | with_reducible refine Af7 ?_
    | with_reducible refine Aax ?_
    | with_reducible refine Aaw ?_
    | ((with_reducible refine cnd ?_); first | refine Ew rfl ?_ | refine Aag rfl ?_)
    | ((with_reducible show J9 _ _ _); refine J9.mk (by kernel_rfl) ?_)
    | ((with_reducible show wc _ _ (.cond _ _ _) _ _ _ _ _ _); first | refine Wk ?_ | refine Wl ?_)
    | refine nw ?_
    | refine nx ?_
    | refine Jp ?_
    | refine Ml ?_
    | refine Mk ?_
    | (conv=>whnf
       first
      | ((with_reducible show D5 _); refine nw ?_)
      | ((with_reducible show F5 _ _ _); refine F5.mk _ rfl ?_)
      | ((with_reducible show J5 _ _); refine M4 ?_)
      | ((with_reducible show Jk _ _ _ _); refine M7 ?_)
      | ((with_reducible show Fa _ _ _); (first | refine M5 ?_ | refine M6 ?_)))
  exact q.get):P:=h ⟨k⟩
theorem ZS {P Q:Prop} (k:Q) (h:Hd Q->P:=by
  intro q
  repeat first
    | ((with_reducible show D5 (Dz _ _ _ _ _ (_::_) _ _ _ _ _)); (first | refine nx ?_ | refine Ml ?_ | refine Mk ?_))
    | ((with_reducible refine opk ?_); conv=>whnf
       first
      | ((with_reducible show D5 _); refine nw ?_)
      | ((with_reducible show F5 _ _ _); refine F5.mk _ rfl ?_)
      | ((with_reducible show J5 _ _); refine M4 ?_)
      | ((with_reducible show Jk _ _ _ _); refine M7 ?_)
      | ((with_reducible show Fa _ _ _); (first | refine M5 ?_ | refine M6 ?_)))
    | ((with_reducible show D5 (Dz _ _ _ _ _ [] _ _ _ _ _)); refine Jp ?_)
    | ((with_reducible show D5 (wc _ _ _ _ _ _ _ _ _)); refine nw ?_)
    | with_reducible refine Ay ?_
    | with_reducible refine Aav ?_
    | with_reducible refine Mn ?_
    | with_reducible refine Ix ?_
    | with_reducible refine Ez ?_
    | with_reducible refine Aax ?_
    | with_reducible refine Aaw ?_
    | ((with_reducible refine cnd ?_); first | refine Ew rfl ?_ | refine Aag rfl ?_)
    | ((with_reducible show J9 _ _ _); refine J9.mk (by kernel_rfl) ?_)
    | ((with_reducible show wc _ _ (.cond _ _ _) _ _ _ _ _ _); first | refine Wk ?_ | refine Wl ?_)
    | refine nw ?_
    | refine nx ?_
    | refine Jp ?_
    | refine Ml ?_
    | refine Mk ?_
    | (conv=>whnf
       first
      | ((with_reducible show D5 _); refine nw ?_)
      | ((with_reducible show F5 _ _ _); refine F5.mk _ rfl ?_)
      | ((with_reducible show J5 _ _); refine M4 ?_)
      | ((with_reducible show Jk _ _ _ _); refine M7 ?_)
      | ((with_reducible show Fa _ _ _); (first | refine M5 ?_ | refine M6 ?_)))
  exact q.get):P:=h ⟨k⟩
theorem ZO {P Q:Prop} (k:Q) (h:Hd Q->P:=by
  intro q
  repeat first
    | ((with_reducible show D5 (Dz _ _ _ _ _ (_::_) _ _ _ _ _)); (first | refine nx ?_ | refine Ml ?_ | refine Mk ?_))
    | ((with_reducible refine opk ?_); conv=>whnf
       first
      | ((with_reducible show F5 _ _ _); refine F5.mk _ rfl ?_)
      | ((with_reducible show J5 _ _); refine M4 ?_)
      | ((with_reducible show Jk _ _ _ _); refine M7 ?_)
      | ((with_reducible show Fa _ _ _); (first | refine M5 ?_ | refine M6 ?_)))
    | ((with_reducible show D5 (Dz _ _ _ _ _ [] _ _ _ _ _)); refine Jp ?_)
    | ((with_reducible show J9 _ _ _); refine J9.mk (by kernel_rfl) ?_)
    | refine nx ?_
    | refine Jp ?_
    | refine Ml ?_
    | refine Mk ?_
    | (conv=>whnf
       first
      | ((with_reducible show F5 _ _ _); refine F5.mk _ rfl ?_)
      | ((with_reducible show J5 _ _); refine M4 ?_)
      | ((with_reducible show Jk _ _ _ _); refine M7 ?_)
      | ((with_reducible show Fa _ _ _); (first | refine M5 ?_ | refine M6 ?_)))
  exact q.get):P:=h ⟨k⟩
theorem Y {P:Prop} (h:P:=by
  repeat' first
    | ((with_reducible show D5 (Dz _ _ _ _ _ (_::_) _ _ _ _ _)); first | refine nx ?_ | refine Ml ?_ | refine Mk ?_ | refine Fq h (fun _ h=>?_) (fun _ h=>?_))
    | ((with_reducible refine opk ?_); conv=>whnf
       first
      | ((with_reducible show D5 _); refine nw ?_)
      | ((with_reducible show F5 _ _ _); refine F5.mk _ rfl ?_)
      | ((with_reducible show J5 _ _); refine M4 ?_)
      | ((with_reducible show Fy _ _ _ _ _ _); (first | refine Bh h (fun _ h=>?_) | refine Agz h (fun _ h=>?_)))
      | ((with_reducible show Sa _ _ _); refine Bx h (fun _ _ _ _ h=>?_))
      | ((with_reducible show Nw _ _ _ _ _); (first | refine I4 h (fun _ _ _ _ h=>?_) | refine Q8 h (fun _ _ _ _ h=>?_)))
      | ((with_reducible show Jk _ _ _ _); refine M7 ?_)
      | ((with_reducible show Sb _ _ _ _); refine Ag0 ?_)
      | ((with_reducible show Kz _ _ _ _ _ _ _); (first | refine Ag1 h (fun _ h=>?_) | refine M8 h (fun _ h=>?_) | refine Ag2 h (fun _ h=>?_)))
      | ((with_reducible show Ny _ _ _); (first | refine Ag3 h (fun _ h=>?_) | refine Ag4 h (fun _ h=>?_)))
      | ((with_reducible show Pp _ _ _ _ _); refine Ge h (fun _ h=>?_))
      | ((with_reducible show Nx _ _ _ _); (first | refine Xk h (fun _ h=>?_) | refine Km h (fun _ h=>?_)))
      | ((with_reducible show Fa _ _ _); (first | refine M5 ?_ | refine M6 ?_))
      | ((with_reducible show Vx _ _ _); refine So h (fun _ h=>?_))
      | ((with_reducible show Vr _ _ _ _); refine Sl h (fun _ h=>?_))
      | ((with_reducible show Vs _ _ _); refine Sn h (fun _ h=>?_))
      | ((with_reducible show Vu _ _ _ _); refine Af3 h (fun _ h=>?_))
      | ((with_reducible show Vt _ _ _ _); refine Af4 h (fun _ h=>?_))
      | ((with_reducible show Vv _ _ _ _); refine Aat h (fun _ _ _ _ h=>?_))
      | ((with_reducible show Vy _ _); refine Fr h (fun h=>?_))
      | ((with_reducible show Vz _ _ _ _ _); refine Afy h (fun _ h=>?_))
      | ((with_reducible show V1 _ _ _ _); refine Afz h (fun _ h=>?_)))
    | ((with_reducible show D5 (Dz _ _ _ _ _ [] _ _ _ _ _)); refine Jp ?_)
    | ((with_reducible show D5 (wc _ _ _ _ _ _ _ _ _)); refine nw ?_)
    | with_reducible refine Ay ?_
    | with_reducible refine Bw ?_
    | with_reducible refine Aav ?_
    | with_reducible refine Mn ?_
    | with_reducible refine Ix ?_
    | with_reducible refine Ez ?_
    | with_reducible refine Af7 ?_
    | with_reducible refine Aax ?_
    | with_reducible refine Aaw ?_
    | ((with_reducible refine cnd ?_); first | refine Ew rfl ?_ | refine Aag rfl ?_)
    | ((with_reducible show wc _ _ (.cond _ _ _) _ _ _ _ _ _); first | refine An h (fun _ h=>?_) (fun _ h=>?_) | refine Wk ?_ | refine Wl ?_)
    | ((with_reducible show J9 _ _ _); refine J9.mk (by kernel_rfl) ?_)
    | refine nx ?_
    | refine Jp ?_
    | refine Ml ?_
    | refine Mk ?_
    | refine Fq h (fun _ h=>?_) (fun _ h=>?_)
    | exact lpn h
    | exact jnn h
    | replace h:=B9 h
    | replace h:=lpj h
    | refine nw ?_
    | (conv=>whnf
       first
      | ((with_reducible show D5 _); refine nw ?_)
      | ((with_reducible show F5 _ _ _); refine F5.mk _ rfl ?_)
      | ((with_reducible show J5 _ _); refine M4 ?_)
      | ((with_reducible show Fy _ _ _ _ _ _); (first | refine Bh h (fun _ h=>?_) | refine Agz h (fun _ h=>?_)))
      | ((with_reducible show Sa _ _ _); refine Bx h (fun _ _ _ _ h=>?_))
      | ((with_reducible show Nw _ _ _ _ _); (first | refine I4 h (fun _ _ _ _ h=>?_) | refine Q8 h (fun _ _ _ _ h=>?_)))
      | ((with_reducible show Jk _ _ _ _); refine M7 ?_)
      | ((with_reducible show Sb _ _ _ _); refine Ag0 ?_)
      | ((with_reducible show Kz _ _ _ _ _ _ _); (first | refine Ag1 h (fun _ h=>?_) | refine M8 h (fun _ h=>?_) | refine Ag2 h (fun _ h=>?_)))
      | ((with_reducible show Ny _ _ _); (first | refine Ag3 h (fun _ h=>?_) | refine Ag4 h (fun _ h=>?_)))
      | ((with_reducible show Pp _ _ _ _ _); refine Ge h (fun _ h=>?_))
      | ((with_reducible show Nx _ _ _ _); (first | refine Xk h (fun _ h=>?_) | refine Km h (fun _ h=>?_)))
      | ((with_reducible show Fa _ _ _); (first | refine M5 ?_ | refine M6 ?_))
      | ((with_reducible show Vx _ _ _); refine So h (fun _ h=>?_))
      | ((with_reducible show Vr _ _ _ _); refine Sl h (fun _ h=>?_))
      | ((with_reducible show Vs _ _ _); refine Sn h (fun _ h=>?_))
      | ((with_reducible show Vu _ _ _ _); refine Af3 h (fun _ h=>?_))
      | ((with_reducible show Vt _ _ _ _); refine Af4 h (fun _ h=>?_))
      | ((with_reducible show Vv _ _ _ _); refine Aat h (fun _ _ _ _ h=>?_))
      | ((with_reducible show Vy _ _); refine Fr h (fun h=>?_))
      | ((with_reducible show Vz _ _ _ _ _); refine Afy h (fun _ h=>?_))
      | ((with_reducible show V1 _ _ _ _); refine Afz h (fun _ h=>?_)))
    | (have h:=Option.some.inj h; subst h; exact rfl)
    | (cases h; (repeat refine ⟨rfl,?_⟩); exact trivial)
    | (cases h; done)
):P:=h
end Go.Ab
namespace Go.Ab
open Go Go.Proofs
set_option maxRecDepth 10000
set_option linter.unusedVariables false
theorem Aqa {a0 r:List B6} (h:B4 16 [] a0=some r):Aw Go.Proofs.Tryz.prog 104 [As 2 Dw a0] (As 2 Dw r):=by
 have h:((B4 16 [] a0).bind fun o=>some o)=some r:=by rw [h]; rfl
 refine pw {T:=Ce,an:=(fun s=>bif Nat.beq s 5 then .own else .ask),nl:=(fun s=>bif Nat.beq s 2 then [(0,2)] else [])} Tryz.func104 ?_
 refine Ay ?_
 refine Bw ?_
 refine ZO ?_
 refine Ay (Ay ?_)
 refine P0 (fun b:Bool=>b=true->a0 = []) (fun b=>[(4,Ar b)]) (fun _=>[]) (fun _=>rfl) ?_ ?_
 .intro K hK
  refine Wm 0 ?_
  intro v hv
  obtain ⟨p,c,rfl,hp⟩:=hv 2 (a0.map Dw) rfl
  refine Bw ?_
  refine nx ?_
  refine nx ?_
  refine Jp ?_
  refine hK p.isNone _ _ _ (fun e=>?_) ⟨rfl,trivial⟩ trivial
  cases p with
  | none=>simpa using hp rfl
  | some _=>cases e
 .rintro b _ hb
  cases b with
  | true=>
   have hb:=hb rfl
   subst hb
   have h:some ([]:List B6)=some r:=by rw [<-h]; rfl
   exact Y
  | false=>
   refine Z ?_
   exact Y
theorem Aqb {a0:List B6} {r:List B6×List B6} (h:Mp 16 a0=some r):Br Go.Proofs.Tryz.prog 104 [As 2 Dw a0] [] (.arr 1 r.2.length 0 r.2.length) [.rows 126 2 (r.1.map Dw),.rows 126 2 (r.2.map Dw)]:=by
 have h:((B4 16 [] a0).bind fun o=>some (([]:List B6),o))=some r:=h
 refine aw {T:=Ce,an:=(fun s=>bif Nat.beq s 5 then .own else bif Nat.beq s 2 then .own else .ask),nl:=(fun _=>[])} false Tryz.func104 ?_
 refine Ay ?_
 refine Bw ?_
 refine ZO ?_
 refine Ay (Ay ?_)
 refine P0 (fun b:Bool=>b=true->a0 = []) (fun b=>[(4,Ar b)]) (fun _=>[]) (fun _=>rfl) ?_ ?_
 .intro K hK
  refine Wm 0 ?_
  intro v hv
  obtain ⟨p,c,rfl,hp⟩:=hv 2 (a0.map Dw) rfl
  refine Bw ?_
  refine nx ?_
  refine nx ?_
  refine Jp ?_
  refine hK p.isNone _ _ _ (fun e=>?_) ⟨rfl,trivial⟩ ⟨⟨rfl,rfl⟩,trivial⟩
  cases p with
  | none=>simpa using hp rfl
  | some _=>cases e
 .rintro b _ hb
  cases b with
  | true=>
   have hb:=hb rfl
   subst hb
   have h:some (([]:List B6),([]:List B6))=some r:=by rw [<-h]; rfl
   cases h
   refine ZO ?_
   exact Y
  | false=>
   refine Z ?_
   refine ZO ?_
   refine M8 h (fun _ h=>?_)
   exact Y
theorem Aqc {a0:List Bq} {r:List Bq×List Bq} (h:Mp 40 a0=some r):Br Go.Proofs.Tryz.prog 54 [As 3 Dh a0] [] (.arr 1 r.2.length 0 r.2.length) [.rows 72 3 (r.1.map Dh),.rows 72 3 (r.2.map Dh)]:=by
 have h:((B4 40 [] a0).bind fun o=>some (([]:List Bq),o))=some r:=h
 refine aw {T:=Ce,an:=(fun s=>bif Nat.beq s 5 then .own else bif Nat.beq s 2 then .own else .ask),nl:=(fun _=>[])} false Tryz.func54 ?_
 refine Ay ?_
 refine Bw ?_
 refine ZO ?_
 refine Ay (Ay ?_)
 refine P0 (fun b:Bool=>b=true->a0 = []) (fun b=>[(4,Ar b)]) (fun _=>[]) (fun _=>rfl) ?_ ?_
 .intro K hK
  refine Wm 0 ?_
  intro v hv
  obtain ⟨p,c,rfl,hp⟩:=hv 3 (a0.map Dh) rfl
  refine Bw ?_
  refine nx ?_
  refine nx ?_
  refine Jp ?_
  refine hK p.isNone _ _ _ (fun e=>?_) ⟨rfl,trivial⟩ ⟨⟨rfl,rfl⟩,trivial⟩
  cases p with
  | none=>simpa using hp rfl
  | some _=>cases e
 .rintro b _ hb
  cases b with
  | true=>
   have hb:=hb rfl
   subst hb
   have h:some (([]:List Bq),([]:List Bq))=some r:=by rw [<-h]; rfl
   cases h
   refine ZO ?_
   exact Y
  | false=>
   refine Z ?_
   refine ZO ?_
   refine M8 h (fun _ h=>?_)
   exact Y
theorem Aqd {a0:List Bb} {r:List Bb×List Bb} (h:Mp 40 a0=some r):Br Go.Proofs.Tryz.prog 60 [As 3 Dn a0] [] (.arr 1 r.2.length 0 r.2.length) [.rows 84 3 (r.1.map Dn),.rows 84 3 (r.2.map Dn)]:=by
 have h:((B4 40 [] a0).bind fun o=>some (([]:List Bb),o))=some r:=h
 refine aw {T:=Ce,an:=(fun s=>bif Nat.beq s 5 then .own else bif Nat.beq s 2 then .own else .ask),nl:=(fun _=>[])} false Tryz.func60 ?_
 refine Ay ?_
 refine Bw ?_
 refine ZO ?_
 refine Ay (Ay ?_)
 refine P0 (fun b:Bool=>b=true->a0 = []) (fun b=>[(4,Ar b)]) (fun _=>[]) (fun _=>rfl) ?_ ?_
 .intro K hK
  refine Wm 0 ?_
  intro v hv
  obtain ⟨p,c,rfl,hp⟩:=hv 3 (a0.map Dn) rfl
  refine Bw ?_
  refine nx ?_
  refine nx ?_
  refine Jp ?_
  refine hK p.isNone _ _ _ (fun e=>?_) ⟨rfl,trivial⟩ ⟨⟨rfl,rfl⟩,trivial⟩
  cases p with
  | none=>simpa using hp rfl
  | some _=>cases e
 .rintro b _ hb
  cases b with
  | true=>
   have hb:=hb rfl
   subst hb
   have h:some (([]:List Bb),([]:List Bb))=some r:=by rw [<-h]; rfl
   cases h
   refine ZO ?_
   exact Y
  | false=>
   refine Z ?_
   refine ZO ?_
   refine M8 h (fun _ h=>?_)
   exact Y
end Go.Ab
namespace Go.Ab
open Go Go.Proofs Go.Shelf
set_option maxRecDepth 100000
set_option linter.unusedVariables false
theorem Cf.up {σ:Aq} {ι:Bm} {H:Hp} {F:Aq} {w w':World} {x:Nat} (h:Cf σ ι H F w x) (hk:∀(b:Nat) (o:Obj),w.heap[b]? = some o->w'.heap[b]? = some o):Cf σ ι H F w' x:=by
 unfold Cf at h ⊢
 cases hx:H x with
 | none=>rw [hx] at h; exact h
 | dead=>trivial
 | cells E cs=>
  rw [hx] at h
  obtain ⟨b,C,h1,h2,h3,g,f⟩:=h
  exact ⟨b,C,h1,h2,h3,hk _ _ g,f⟩
 | rows E sz xs=>
  rw [hx] at h
  obtain ⟨h0,h1,h2⟩:=h
  refine ⟨h0,h1,?_⟩
  rcases h2 with h2 | ⟨b,c,C,q,l,k,j,i⟩
  .exact .inl h2
  .exact .inr ⟨b,c,C,q,l,k,hk _ _ j,i⟩
 | map es=>
  rw [hx] at h
  obtain ⟨b,M,t,h1,h2,h3,g,f⟩:=h
  exact ⟨b,M,t,h1,h2,h3,hk _ _ g,f⟩
theorem St.growG {σ:Aq} {ι:Bm} {H:Hp} {F:Aq} {W w:World} (s:St σ ι H F W w) (k:Nat) (os:Array Obj):St σ ι H F W (Sort.grow (Sort.ahead w k) os):=by
 have hk:∀(b:Nat) (o:Obj),w.heap[b]? = some o->(Sort.grow (Sort.ahead w k) os).heap[b]? = some o:=by
  intro b o h
  have c:=(Array.getElem?_eq_some_iff.1 h).1
  show (w.heap++os)[b]? = _
  rw [Array.getElem?_append_left c]; exact h
 exact ⟨fun b o h=>hk b o (s.sto b o h),fun b o h=>⟨hk b o (s.fra b o h).1,(s.fra b o h).2⟩,fun h=>(s.obj h).up hk,s.inj,s.os,s.tape,s.output,s.glo,Nat.le_trans s.drw (Nat.le_add_right _ _)⟩
theorem Aqe {α:Type} [Inhabited α] (enc:α->Value) (w:World) (b:Nat) (d:Array α) (C:Array Value) (E:TypeId) (h:w.heap[b]? = some (.cells C E (0,0))):Sort.putRow enc w b 0 d=w.setRow b (Sort.putCells enc 0 d C):=by
 have c:(Sort.putRow enc w b 0 d).heap=(w.setRow b (Sort.putCells enc 0 d C)).heap:=by
  apply Array.ext_getElem?
  intro i
  simp only [Sort.putRow,Sort.mapBlock,World.setRow,Array.getElem?_modify]
  split
  .rename_i e; subst e
   rw [h]; simp [Sort.onCells]
  .rfl
 unfold Sort.putRow Sort.mapBlock World.setRow at c ⊢
 simp only at c
 rw [c]
end Go.Ab
namespace Go.Ab
open Go Go.Proofs Go.Shelf Go.Sort
set_option maxRecDepth 100000
set_option linter.unusedVariables false
theorem Aqf {v:Value} (h:Ds v=true):v.oneCell'=true:=by cases v <;> first | rfl | cases h
theorem Aqg {σ:Aq} {ι:Bm} {H:Hp} {f:FuncId} {v:Value} (h:Conc σ ι H (.fn f []) v):v = .func (.func f) #[] #[]:=by
 cases h with
 | cc h=>cases h
 | fn _ _ vs b _=>
  have:vs = #[]:=Array.size_eq_zero_iff.1 (by simpa using b)
  rw [this]
def Ag5 {α:Type} (σ:Aq) (eA:α->AV) (sz:Nat) (S:List α) (x:α) (c:List Value):Prop :=
 x∈S/\(eA x).cells.length=sz/\c.length=sz/\∀(j:Nat) (a:AV) (v:Value),(eA x).cells[j]? = some a->c[j]? = some v->CC σ a v/\Ds v=true
abbrev K9 {α:Type} (σ:Aq) (eA:α->AV) (sz:Nat) (S:List α):Type:={p:α×List Value // Ag5 σ eA sz S p.1 p.2}
theorem Aqh {σ:Aq} {W w':World} (j:∀b o,W.heap[b]? = some o->σ b=some o) (s:St σ ι0 H0 (fun _=>none) W w'):∃q f,w'=grow (W.drewN q) f:=by
 have hk:∀b o,W.heap[b]? = some o->w'.heap[b]? = some o:=fun b o h=>s.sto b o (j b o h)
 have k:W.heap.size<=w'.heap.size:=by
  rcases Nat.eq_zero_or_pos W.heap.size with h | h
  .omega
  .have:=hk (W.heap.size-1) _ (Array.getElem?_eq_getElem (by omega))
   have:=(Array.getElem?_eq_some_iff.1 this).1
   omega
 refine ⟨w'.drawn-W.drawn,w'.heap.extract W.heap.size w'.heap.size,?_⟩
 have c:w'.heap=W.heap++w'.heap.extract W.heap.size w'.heap.size:=by
  apply Array.ext_getElem?
  intro i
  by_cases g:i<W.heap.size
  .rw [Array.getElem?_append_left g,Array.getElem?_eq_getElem g]
   exact hk i _ (Array.getElem?_eq_getElem g)
  .rw [Array.getElem?_append_right (by omega)]
   by_cases l:i<w'.heap.size
   .rw [Array.getElem?_eq_getElem l,Array.getElem?_eq_getElem (by simp; omega)]
    simp only [Array.getElem_extract]
    congr 2
    omega
   .rw [Array.getElem?_eq_none (by omega),Array.getElem?_eq_none (by simp; omega)]
 have h1:=s.os
 have h2:=s.tape
 have h3:=s.output
 have u:=s.drw
 cases w' with
 | mk heap tape drawn os output=>
  simp only at h1 h2 h3 u c
  unfold grow World.drewN
  simp only [World.mk.injEq]
  exact ⟨c,h2,by omega,h1,h3⟩
theorem Ag6 {ρ:Ren} {α:Type} {eA:α->AV} {E:TypeId} {sz f g:Nat} {cmp:α->α->Option Int} (L:SlLaysF0.n6 Go.Proofs.Tryz.prog ρ) (hf:ρ.f 6=f) (aa:Vq Go.Proofs.Tryz.prog f)
  (aE:∀w,(isAgg (ρ.t 24)).run Go.Proofs.Tryz.prog w = .ok true w) (zE:∀w,(Go.sizeOf (ρ.t 24)).run Go.Proofs.Tryz.prog w = .ok sz w) (eg:∀args w,(callFunc g args).run Go.Proofs.Tryz.prog w = .ok (.enter g args) w)
  (b3:∀x y n,cmp x y=some n->Aw Go.Proofs.Tryz.prog g [eA x,eA y] (O .i64 n)) (b5:∀x,∃cs,eA x = .agg cs) {l r:List α} (h:Lq cmp l=some r) (ao:l≠[]) :
  Br Go.Proofs.Tryz.prog f [.arr 0 l.length 0 l.length,.fn g []] [.rows E sz (l.map eA)] (.tup []) [.rows E sz (r.map eA)]:=by
 obtain ⟨cf,law,bf,I,A⟩:=Apw h
 refine ⟨aa,fun σ F W w ι vs s az=>?_⟩
 obtain ⟨v,v2,rfl,G,b8⟩:=Abs az
 obtain rfl:=Aqg b8
 have hh:hp [.rows E sz (l.map eA)] 0 = .rows E sz (l.map eA):=rfl
 have U:=G.arr_inv hh (by simp)
 have hor:=s.obj 0
 unfold Cf at hor
 rw [hh] at hor
 obtain ⟨X,aq,hor⟩:=hor
 rw [List.length_map] at aq
 rcases hor with ⟨_,ak⟩ | ⟨b,Y,D,hb,g1,g2,g3,g4,g5,g6⟩
 .exact (ao (by simpa using ak)).elim
 rw [List.length_map] at g5
 unfold E4 at U
 rw [hb] at U
 simp only [Nat.zero_mul,Nat.sub_zero] at U
 obtain ⟨ht,ad⟩:=U
 subst ad
 obtain ⟨gg,q1,q2,q3⟩:=g6
 have ac:∀(i:Nat) (x:α),l[i]? = some x->(l.map eA)[i]? = some (eA x):=fun i x hx=>by rw [List.getElem?_map,hx]; rfl
 have a7:∀(i:Nat) (J:i<l.length),Ag5 σ eA sz l l[i] ((List.range sz).map (gg i)):=by
  intro i J
  have hx:l[i]? = some l[i]:=List.getElem?_eq_getElem J
  refine ⟨List.getElem_mem J,q1 i _ (ac i _ hx),by simp,fun j a v ha G=>?_⟩
  rw [List.getElem?_map,Option.map_eq_some_iff] at G
  obtain ⟨k,hk,rfl⟩:=G
  have bd:k=j:=by
   have:=(List.getElem?_eq_some_iff.1 hk).2
   simpa using this.symm
  subst bd
  exact q2 i _ k a (ac i _ hx) ha
 have hpos:0<l.length:=List.length_pos_iff.2 ao
 let d:Array (K9 σ eA sz l):=Array.ofFn fun i:Fin l.length=>⟨(l[i.1],(List.range sz).map (gg i.1)),a7 i.1 i.2⟩
 haveI:Inhabited (K9 σ eA sz l):=⟨⟨(l[0],(List.range sz).map (gg 0)),a7 0 hpos⟩⟩
 have B:d.size=l.length:=by simp [d]
 have be:∀i (J:i<l.length),d[i]! = ⟨(l[i],(List.range sz).map (gg i)),a7 i J⟩:=fun i J=>by
  rw [getElem!_pos d i (by rw [B]; exact J)]; simp [d]
 let enc:K9 σ eA sz l->List Value:=fun p=>p.1.2
 have hk:∀x:K9 σ eA sz l,(enc x).length=sz:=fun x=>x.2.2.2.1
 have h1:∀x:K9 σ eA sz l,∀v∈enc x,v.oneCell'=true:=by
  intro x v G
  obtain ⟨j,S⟩:=List.getElem?_of_mem G
  have q:=(List.getElem?_eq_some_iff.1 S).1
  rw [hk x] at q
  have ha:(eA x.1.1).cells[j]? = some ((eA x.1.1).cells[j]'(by rw [x.2.2.1]; exact q)):=List.getElem?_eq_getElem _
  exact Aqf (x.2.2.2.2 j _ v ha S).2
 let ab:K9 σ eA sz l->K9 σ eA sz l->Int:=fun x y=>cf x.1.1 y.1.1
 have hO:SWO (ltOf ab):=by
  constructor
  .intro x; exact decide_eq_false (law.irr x.1.1)
  .intro x y z a1 Z
   exact decide_eq_true (law.trs _ _ _ (of_decide_eq_true a1) (of_decide_eq_true Z))
  .intro x y z a1 Z
   exact decide_eq_false (law.ntr _ _ _ (of_decide_eq_false a1) (of_decide_eq_false Z))
 have hH:HoldsK enc sz w b 0 d:=by
  intro t a6
  rw [size_flatK,B] at a6
  have af:t / sz<l.length:=Nat.div_lt_of_lt_mul (by rw [Nat.mul_comm]; exact a6)
  have ae:t % sz<sz:=Nat.mod_lt _ X
  rw [get_flatK _ _ _ _ (by rw [B]; exact a6),be _ af]
  have e:=q3 (t / sz) (t % sz) (by rw [List.length_map]; exact af) ae
  rw [show t / sz*sz+t % sz=t by rw [Nat.mul_comm]; exact Nat.div_add_mod t sz] at e
  refine ⟨?_,?_⟩
  .rw [Nat.zero_add,Hf g3,e]
   show some _=some (id _)
   congr 1
   show gg _ _=((List.range sz).map (gg (t / sz)))[t % sz]!
   rw [getElem!_pos _ _ (by simpa using ae)]
   simp
  .simp [World.frozen?,g3]
 have hblk:b<w.heap.size:=(Array.getElem?_eq_some_iff.1 g3).1
 have hC:CmpLays Go.Proofs.Tryz.prog g #[] enc sz ab b 0 d.size w:=by
  intro m os dk hs x y
  generalize b7:sortWorldK enc sz w b 0 m dk os=V
  have au:∀b' o,σ b'=some o->V.heap[b']? = some o:=by
   intro b' o ho
   have am:b≠b':=by
    rintro rfl
    rw [g1] at ho; cases ho
   have e:=s.sto b' o ho
   have q:=(Array.getElem?_eq_some_iff.1 e).1
   rw [<-b7]
   show ((w.heap.modify b _)++os)[b']? = _
   rw [Array.getElem?_append_left (by simpa using q),Array.getElem?_modify,if_neg am]; exact e
  have ax:=bf x.1.1 x.2.1 y.1.1 y.2.1
  have hp:=b3 _ _ _ ax
  have s1:St ((fun b=>V.heap[b]?)) ι0 H0 (fun _=>none) V V:=⟨fun _ _ e=>e,(fun _ _ e=>by cases e),fun _=>rfl,(fun _ _ _ hl=>by cases hl),rfl,rfl,rfl,s.glo.mono au,Nat.le_refl _⟩
  have b4:∀z:K9 σ eA sz l,Conc ((fun b=>V.heap[b]?)) ι0 H0 (eA z.1.1) (.agg (enc z).toArray):=by
   intro z
   obtain ⟨cs,ay⟩:=b5 z.1.1
   have M:(eA z.1.1).cells=cs:=by rw [ay]; rfl
   rw [ay]
   refine .cc (.agg _ _ ?_ fun i c v hc G=>?_)
   .rw [<-M,z.2.2.1]; simp [hk z]
   .rw [<-M] at hc
    exact (z.2.2.2.2 i c v hc (by simpa using G)).1.mono au
  refine (hp.2 ((fun b=>V.heap[b]?)) (fun _=>none) V V _ s1 ⟨rfl,?_⟩).mono ?_
  .intro i a v ha G
   match i,ha,G with
   | 0,ha,G=>cases ha; cases G; exact b4 x
   | 1,ha,G=>cases ha; cases G; exact b4 y
   | n+2,ha,G=>simp at ha
  .rintro e w' ⟨v,σ',rfl,ar,b9,hc⟩
   refine ⟨?_,?_⟩
   .cases hc with
    | cc h=>cases h; rfl
   .exact Aqh (σ:=σ') (fun b o ho=>ar b o ho) b9
 have call:=AnyQ.slices_SortFunc L sz aE zE enc hk h1 ab hO g #[] b 0 Y d w eg hC hH hblk (by rw [B]; omega)
 rw [hf,B] at call
 refine call.mono ?_
 rintro e w' ⟨rfl,u,n,os,bb,ba,rfl⟩
 obtain ⟨p1,p2,p3⟩:=bb
 have R:u.size=l.length:=by rw [p1,B]
 have N:∀(a:Array (K9 σ eA sz l)),a.size=l.length->(a.extract 0 l.length).toList=a.toList:=fun a ha=>by
  rw [<-ha]; simp
 rw [N u R,N d B] at p3
 have ap:d.toList.map (fun p=>p.1.1)=l:=by
  apply List.ext_getElem
  .simp [B]
  .intro i bi bh
   simp [d]
 have aj:(u.toList.map fun p=>p.1.1).Perm l:=by
  have:=p3.map fun p:K9 σ eA sz l=>p.1.1
  rwa [ap] at this
 have hR:(u.toList.map fun p=>p.1.1).Pairwise fun x y=>cf x y<0\/cf y x<0:=by
  refine ((aj.trans I.symm).pairwise_iff (fun {x y} h=>h.symm)).2 ?_
  exact A.imp fun h=>.inl h
 have hS:(u.toList.map fun p=>p.1.1).Pairwise fun x y=>cf x y<0:=by
  rw [List.pairwise_iff_getElem] at hR ⊢
  intro i j J S av
  simp only [List.length_map,Array.length_toList] at J S
  rcases hR i j (by simpa using J) (by simpa using S) av with h | h
  .exact h
  .have:=ba i j (Nat.zero_le _) av (by omega)
   rw [getElem!_pos u i J,getElem!_pos u j S] at this
   have:=of_decide_eq_false this
   simp only [List.getElem_map,Array.getElem_toList] at h
   exact (this h).elim
 have ai:u.toList.map (fun p=>p.1.1)=r:=by
  refine List.Perm.eq_of_pairwise (le:=fun x y=>cf x y<0) (fun x y _ _ h1 h2=>(law.irr x (law.trs _ _ _ h1 h2)).elim) hS A (aj.trans I.symm)
 have ah:r.length=l.length:=I.length_eq
 have bg:(flatK enc sz u).size=l.length*sz:=by rw [size_flatK,R]
 have b6:(Sort.putCells id 0 (flatK enc sz u) D).size=Y*sz:=by unfold Sort.putCells; rw [Array.size_mapIdx]; exact g4
 have ag:∀(i:Nat) (x:α),r[i]? = some x->i<u.size/\(u[i]!).1.1=x:=by
  intro i x hx
  rw [<-ai,List.getElem?_map,Option.map_eq_some_iff] at hx
  obtain ⟨p,hp,rfl⟩:=hx
  have q:=(List.getElem?_eq_some_iff.1 hp).1
  simp only [Array.length_toList] at q
  refine ⟨q,?_⟩
  rw [getElem!_pos u i q]
  have:=(List.getElem?_eq_some_iff.1 hp).2
  simp only [Array.getElem_toList] at this
  rw [this]
 obtain ⟨s',le⟩:=s.setRows 0 E sz _ (r.map eA) hh b Y hb (by simp [ah]) (Sort.putCells id 0 (flatK enc sz u) D) b6 (by
  refine ⟨fun i j=>(enc u[i]!)[j]!,?_,?_,?_⟩
  .intro i x hx
   rw [List.getElem?_map] at hx
   obtain ⟨z,hz,rfl⟩:=Option.map_eq_some_iff.1 hx
   obtain ⟨e1,e2⟩:=ag i z hz
   rw [<-e2]; exact (u[i]!).2.2.1
  .intro i x j c hx a8
   rw [List.getElem?_map] at hx
   obtain ⟨z,hz,rfl⟩:=Option.map_eq_some_iff.1 hx
   obtain ⟨e1,e2⟩:=ag i z hz
   rw [<-e2] at a8
   have q:=(List.getElem?_eq_some_iff.1 a8).1
   rw [(u[i]!).2.2.1,<-(u[i]!).2.2.2.1] at q
   have hg:(u[i]!).1.2[j]? = some ((enc u[i]!)[j]!):=by
    rw [List.getElem?_eq_getElem q,getElem!_pos (enc u[i]!) j q]
   exact (u[i]!).2.2.2.2 j c _ a8 hg
  .intro i j J S
   rw [List.length_map,ah] at J
   have q:i*sz+j<l.length*sz:=by
    have:=Nat.mul_le_mul_right sz (show i+1<=l.length from J)
    rw [Nat.add_mul,Nat.one_mul] at this; omega
   have hD:i*sz+j<D.size:=by
    rw [g4]
    exact Nat.lt_of_lt_of_le q (Nat.mul_le_mul_right sz g5)
   unfold Sort.putCells
   rw [Array.getElem?_mapIdx,Array.getElem?_eq_getElem hD]
   simp only [Option.map_some,Nat.zero_le,true_and,Nat.zero_add,bg,q,if_true,Nat.sub_zero]
   congr 1
   show id ((flatK enc sz u)[i*sz+j]!)=_
   rw [get_flatK _ _ _ _ (by rw [R]; exact q)]
   have e1:(i*sz+j) / sz=i:=by rw [Nat.mul_comm,Nat.mul_add_div X,Nat.div_eq_of_lt S,Nat.add_zero]
   have e2:(i*sz+j) % sz=j:=by rw [Nat.mul_comm,Nat.mul_add_mod,Nat.mod_eq_of_lt S]
   rw [e1,e2]; rfl)
 have eH:Ax (hp [.rows E sz (l.map eA)]) 0 (.rows E sz (r.map eA))=hp [.rows E sz (r.map eA)]:=by
  funext i
  match i with
  | 0=>rfl
  | i+1=>rfl
 rw [eH] at le s'
 have eW:sortWorldK enc sz w b 0 n u os=Sort.grow (Sort.ahead (w.setRow b (Sort.putCells id 0 (flatK enc sz u) D)) n) os:=by
  unfold sortWorldK putRowK
  rw [Aqe id (Sort.ahead w n) b (flatK enc sz u) D E g3]
  rfl
 rw [eW]
 exact ⟨_,σ,ι,rfl,le,s'.growG n os,.tup _ _ rfl (fun i c v h1 _=>by cases h1)⟩
def Aqi:Ren:={f:=fun x=>match x with | 6=>67 | 15=>123 | 14=>122 | 28=>192 | 29=>193 | 20=>184 | 21=>185 | 22=>186 | 23=>187 | 24=>188 | 25=>189 | 26=>190 | 27=>191 | 46=>244 | 47=>245 | 48=>246 | 49=>247 | 50=>248 | 57=>279 | n=>n,t:=fun x=>match x with | 22=>31 | 24=>42 | 25=>149 | 3=>3 | 39=>205 | 0=>0 | 53=>105 | 55=>104 | 4=>4 | 46=>264 | 45=>263 | 50=>146 | 5=>5 | 9=>9 | 66=>322 | 70=>326 | 76=>357 | 77=>358 | n=>n,g:=fun n=>n}
theorem Aqj:SlLaysF0.n6 Go.Proofs.Tryz.prog Aqi:=by
 constructor
 case f6=>exact Exists.intro "slices.SortFunc[[]amortcost/api.Term,amortcost/api.Term]" ⟨by kernel_rfl,by kernel_rfl⟩
 case f14=>exact Exists.intro "slices.pdqsortCmpFunc[amortcost/api.Term]" ⟨by kernel_rfl,by kernel_rfl⟩
 case f20=>exact Exists.intro "slices.insertionSortCmpFunc[amortcost/api.Term]" ⟨by kernel_rfl,by kernel_rfl⟩
 case f21=>exact Exists.intro "slices.heapSortCmpFunc[amortcost/api.Term]" ⟨by kernel_rfl,by kernel_rfl⟩
 case f22=>exact Exists.intro "slices.breakPatternsCmpFunc[amortcost/api.Term]" ⟨by kernel_rfl,by kernel_rfl⟩
 case f23=>exact Exists.intro "slices.choosePivotCmpFunc[amortcost/api.Term]" ⟨by kernel_rfl,by kernel_rfl⟩
 case f24=>exact Exists.intro "slices.reverseRangeCmpFunc[amortcost/api.Term]" ⟨by kernel_rfl,by kernel_rfl⟩
 case f25=>exact Exists.intro "slices.partialInsertionSortCmpFunc[amortcost/api.Term]" ⟨by kernel_rfl,by kernel_rfl⟩
 case f26=>exact Exists.intro "slices.partitionEqualCmpFunc[amortcost/api.Term]" ⟨by kernel_rfl,by kernel_rfl⟩
 case f27=>exact Exists.intro "slices.partitionCmpFunc[amortcost/api.Term]" ⟨by kernel_rfl,by kernel_rfl⟩
 case f46=>exact Exists.intro "slices.siftDownCmpFunc[amortcost/api.Term]" ⟨by kernel_rfl,by kernel_rfl⟩
 case f49=>exact Exists.intro "slices.medianAdjacentCmpFunc[amortcost/api.Term]" ⟨by kernel_rfl,by kernel_rfl⟩
 case f50=>exact Exists.intro "slices.medianCmpFunc[amortcost/api.Term]" ⟨by kernel_rfl,by kernel_rfl⟩
 case f57=>exact Exists.intro "slices.order2CmpFunc[amortcost/api.Term]" ⟨by kernel_rfl,by kernel_rfl⟩
 all_goals first | kernel_rfl | (intro w; kernel_rfl)
theorem Aqk {α:Type} {eA:α->AV} {g:Nat} {cmp:α->α->Option Int} (j:∀args w,(callFunc g args).run Go.Proofs.Tryz.prog w = .ok (.enter g args) w)
  (b:∀x y n,cmp x y=some n->Aw Go.Proofs.Tryz.prog g [eA x,eA y] (O .i64 n)) (c:∀x,∃cs,eA x = .agg cs) {f r:List α} (h:Lq cmp f=some r) (i:f≠[]) :
  Br Go.Proofs.Tryz.prog 67 [.arr 0 f.length 0 f.length,.fn g []] [.rows 42 5 (f.map eA)] (.tup []) [.rows 42 5 (r.map eA)] :=
 Ag6 Aqj rfl ⟨_,Tryz.func67,by kernel_rfl,by kernel_rfl⟩ (by intro w; kernel_rfl) (by intro w; kernel_rfl) j b c h i
def Aql:Ren:={f:=fun x=>match x with | 6=>105 | 15=>123 | 14=>159 | 28=>192 | 29=>193 | 20=>217 | 21=>218 | 22=>219 | 23=>220 | 24=>221 | 25=>222 | 26=>223 | 27=>224 | 46=>262 | 47=>245 | 48=>246 | 49=>263 | 50=>264 | 57=>290 | n=>n,t:=fun x=>match x with | 22=>80 | 24=>126 | 25=>182 | 3=>3 | 39=>205 | 0=>0 | 53=>105 | 55=>104 | 4=>4 | 46=>264 | 45=>263 | 50=>146 | 5=>5 | 9=>9 | 66=>322 | 70=>326 | 76=>357 | 77=>358 | n=>n,g:=fun n=>n}
theorem Aqm:SlLaysF0.n6 Go.Proofs.Tryz.prog Aql:=by
 constructor
 case f6=>exact Exists.intro "slices.SortFunc[[]amortcost/api.LinTerm,amortcost/api.LinTerm]" ⟨by kernel_rfl,by kernel_rfl⟩
 case f14=>exact Exists.intro "slices.pdqsortCmpFunc[amortcost/api.LinTerm]" ⟨by kernel_rfl,by kernel_rfl⟩
 case f20=>exact Exists.intro "slices.insertionSortCmpFunc[amortcost/api.LinTerm]" ⟨by kernel_rfl,by kernel_rfl⟩
 case f21=>exact Exists.intro "slices.heapSortCmpFunc[amortcost/api.LinTerm]" ⟨by kernel_rfl,by kernel_rfl⟩
 case f22=>exact Exists.intro "slices.breakPatternsCmpFunc[amortcost/api.LinTerm]" ⟨by kernel_rfl,by kernel_rfl⟩
 case f23=>exact Exists.intro "slices.choosePivotCmpFunc[amortcost/api.LinTerm]" ⟨by kernel_rfl,by kernel_rfl⟩
 case f24=>exact Exists.intro "slices.reverseRangeCmpFunc[amortcost/api.LinTerm]" ⟨by kernel_rfl,by kernel_rfl⟩
 case f25=>exact Exists.intro "slices.partialInsertionSortCmpFunc[amortcost/api.LinTerm]" ⟨by kernel_rfl,by kernel_rfl⟩
 case f26=>exact Exists.intro "slices.partitionEqualCmpFunc[amortcost/api.LinTerm]" ⟨by kernel_rfl,by kernel_rfl⟩
 case f27=>exact Exists.intro "slices.partitionCmpFunc[amortcost/api.LinTerm]" ⟨by kernel_rfl,by kernel_rfl⟩
 case f46=>exact Exists.intro "slices.siftDownCmpFunc[amortcost/api.LinTerm]" ⟨by kernel_rfl,by kernel_rfl⟩
 case f49=>exact Exists.intro "slices.medianAdjacentCmpFunc[amortcost/api.LinTerm]" ⟨by kernel_rfl,by kernel_rfl⟩
 case f50=>exact Exists.intro "slices.medianCmpFunc[amortcost/api.LinTerm]" ⟨by kernel_rfl,by kernel_rfl⟩
 case f57=>exact Exists.intro "slices.order2CmpFunc[amortcost/api.LinTerm]" ⟨by kernel_rfl,by kernel_rfl⟩
 all_goals first | kernel_rfl | (intro w; kernel_rfl)
theorem Aqn {α:Type} {eA:α->AV} {g:Nat} {cmp:α->α->Option Int} (j:∀args w,(callFunc g args).run Go.Proofs.Tryz.prog w = .ok (.enter g args) w)
  (b:∀x y n,cmp x y=some n->Aw Go.Proofs.Tryz.prog g [eA x,eA y] (O .i64 n)) (c:∀x,∃cs,eA x = .agg cs) {f r:List α} (h:Lq cmp f=some r) (i:f≠[]) :
  Br Go.Proofs.Tryz.prog 105 [.arr 0 f.length 0 f.length,.fn g []] [.rows 126 2 (f.map eA)] (.tup []) [.rows 126 2 (r.map eA)] :=
 Ag6 Aqm rfl ⟨_,Tryz.func105,by kernel_rfl,by kernel_rfl⟩ (by intro w; kernel_rfl) (by intro w; kernel_rfl) j b c h i
end Go.Ab
namespace Go.Ab
open Go Go.Proofs Go.Shelf
set_option maxRecDepth 100000
set_option linter.unusedVariables false
theorem Vo {σ:Aq} {ι:Bm} {H:Hp} {u v:Value} (h:Conc σ ι H (.val u) v):v=u:=by
 cases h with
 | cc h=>cases h; rfl
theorem Ag7 {ρ:Ren} {α:Type} {eA:α->AV} {E:TypeId} {sz f:Nat} (L:Lays8.n4 Go.Proofs.Tryz.prog ρ) (N:ρ.f 4=f) (g:Vq Go.Proofs.Tryz.prog f) (l:TypeInfo) (z:Value) (G:Go.Proofs.Tryz.prog.info? (ρ.t 25)=some l) (D:l.zero=some z) (X:ρ.t 25=E) (U:l.size=sz) (B:z.cells.size=sz) (q:0<sz) (I:l.bytes<=1000)
  {n:Int} {r:List α} (h:Mq n=some r):Br Go.Proofs.Tryz.prog f [.val (.slice none 0 0),O .i64 n] [] (.arr 0 r.length 0 r.length) [.rows E sz (r.map eA)]:=by
 have V:r = []/\0<=n/\n<=1000000:=by
  unfold Mq at h
  by_cases h1:0<=n
  .by_cases h2:n<=1000000
   .rw [decide_eq_true h1,decide_eq_true h2] at h
    have h:some ([]:List α)=some r:=h
    cases h; exact ⟨rfl,h1,h2⟩
   .rw [decide_eq_false h2,Bool.and_false] at h; cases h
  .rw [decide_eq_false h1,Bool.false_and] at h; cases h
 obtain ⟨rfl,n0,n1⟩:=V
 obtain ⟨m,rfl⟩:∃m:Nat,n=m:=⟨n.toNat,by omega⟩
 refine ⟨g,fun σ F W w ι vs s y=>?_⟩
 obtain ⟨v,u,rfl,S,hu⟩:=Abs y
 obtain rfl:=Vo S
 obtain rfl:=Vo hu
 have M:hp [] 0 = .none:=rfl
 have R:Ax (hp []) 0 (.rows E sz [])=hp [.rows E sz []]:=by
  funext i
  match i with
  | 0=>rfl
  | i+1=>rfl
 by_cases h0:m=0
 .subst h0
  have call:=Any8.slices_Grow_room L none 0 0 0 w (Nat.le_refl _) (by decide) (by decide) (by decide)
  rw [N] at call
  refine call.mono ?_
  rintro e w' ⟨rfl,rfl⟩
  obtain ⟨s',le⟩:=s.newNil 0 M E sz q
  rw [R] at s' le
  refine ⟨_,σ,_,rfl,le,s',.arr 0 0 0 0 _ (by intro e; cases e) (fun Z A xs e=>?_) rfl⟩
  cases e
  refine ⟨Nat.le_refl _,fun _=>?_⟩
  unfold E4
  rw [B8]
  exact ⟨rfl,rfl,rfl⟩
 .have hb:(0+m)*l.bytes<=140737488355328:=by
   have:=Nat.mul_le_mul (show 0+m<=1000000 by omega) I
   omega
  have call:=Any8.slices_Grow_grow L l z G D (by omega) none 0 0 m [] w (Nat.le_refl _) (by omega) hb (by omega) (by simp) (fun _=>rfl) (fun a h=>by cases h)
  rw [N,X] at call
  refine call.mono ?_
  rintro e w' ⟨rfl,rfl⟩
  have hge:=Vh w (0+m) 0 E
  generalize grownCap w (0+m) 0 E=cap at hge
  have b:∀k,(Builtin.zeroCells z.cells k).size=k*sz:=by intro k; simp [Builtin.zeroCells,B]
  generalize Y:(([]:List Value).toArray++Builtin.zeroCells z.cells (0+m-0)++Builtin.zeroCells z.cells (cap-(0+m)))=C
  have J:C.size=cap*sz:=by
   rw [<-Y,Array.size_append,Array.size_append,b,b]
   simp only [List.size_toArray,List.length_nil,Nat.zero_add,Nat.sub_zero,<-Nat.add_mul]
   congr 1; omega
  obtain ⟨s',le⟩:=(s.drew (w.drawn+1)).newRows 0 E sz [] cap C (.inl M) q (by simp) (by simp) J ⟨fun _ _=>.bool false,(by intro i x h; simp at h),(by intro i x j c h; simp at h),(by intro i j h; simp at h)⟩
  rw [R] at s' le
  refine ⟨_,σ,_,rfl,le,s',.arr 0 0 0 0 _ (by intro e; cases e) (fun Z A xs e=>?_) rfl⟩
  cases e
  refine ⟨Nat.le_refl _,fun _=>?_⟩
  unfold E4
  rw [B8]
  exact ⟨Nat.zero_le _,by simp⟩
def Aqo:Ren:={f:=fun x=>match x with | 4=>239 | n=>n,t:=fun x=>match x with | 22=>37 | 25=>72 | 3=>3 | 4=>4 | 9=>9 | 20=>20 | 0=>0 | n=>n,g:=fun n=>n}
theorem Aqp:Lays8.n4 Go.Proofs.Tryz.prog Aqo:=by
 constructor
 case f4=>exact Exists.intro "slices.Grow[[]amortcost/api.Factor,amortcost/api.Factor]" ⟨by kernel_rfl,by kernel_rfl⟩
 all_goals first | kernel_rfl | (intro w; kernel_rfl)
theorem Aqq {α:Type} {eA:α->AV} {n:Int} {r:List α} (h:Mq n=some r):Br Go.Proofs.Tryz.prog 239 [.val (.slice none 0 0),O .i64 n] [] (.arr 0 r.length 0 r.length) [.rows 72 3 (r.map eA)] :=
 Ag7 Aqp rfl ⟨_,Tryz.func239,by kernel_rfl,by kernel_rfl⟩ Tryz.t72 (Tryz.t72.zero.getD .nilFunc) (by kernel_rfl) (by kernel_rfl) rfl (by kernel_rfl) (by kernel_rfl) (by decide) (of_decide_eq_true (by kernel_rfl)) h
def Aqr:Ren:={f:=fun x=>match x with | 4=>240 | n=>n,t:=fun x=>match x with | 22=>38 | 25=>84 | 3=>3 | 4=>4 | 9=>9 | 20=>20 | 0=>0 | n=>n,g:=fun n=>n}
theorem Aqs:Lays8.n4 Go.Proofs.Tryz.prog Aqr:=by
 constructor
 case f4=>exact Exists.intro "slices.Grow[[]amortcost/api.Atom,amortcost/api.Atom]" ⟨by kernel_rfl,by kernel_rfl⟩
 all_goals first | kernel_rfl | (intro w; kernel_rfl)
theorem Aqt {α:Type} {eA:α->AV} {n:Int} {r:List α} (h:Mq n=some r):Br Go.Proofs.Tryz.prog 240 [.val (.slice none 0 0),O .i64 n] [] (.arr 0 r.length 0 r.length) [.rows 84 3 (r.map eA)] :=
 Ag7 Aqs rfl ⟨_,Tryz.func240,by kernel_rfl,by kernel_rfl⟩ Tryz.t84 (Tryz.t84.zero.getD .nilFunc) (by kernel_rfl) (by kernel_rfl) rfl (by kernel_rfl) (by kernel_rfl) (by decide) (of_decide_eq_true (by kernel_rfl)) h
end Go.Ab
