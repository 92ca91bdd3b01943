/- Contracts of strings.Builder and strconv.Itoa. -/
import Derived.Test.YtjjkmepjaemceaaGreatDoorBsTy
import Derived.Test.YtjjkmepjaemceaaGreatDoorBsHandB
import Derived.Shelf.Strconv.Itoa4
import Derived.KernelRfl
import Derived.Shelf.Sort.Plain
namespace Go.Ab
open Go Go.Proofs Go.Shelf
set_option maxRecDepth 100000
def Aqm:Ren:={f:=fun x=>match x with | 171=>193 | 173=>262 | 243=>260 | 246=>315 | 283=>334 | 284=>335 | 285=>336 | 286=>337 | 129=>218 | 317=>353 | 318=>354 | 319=>355 | 320=>356 | 337=>358 | 338=>359 | n=>n,t:=fun x=>match x with | 3=>3 | 9=>9 | 2=>2 | 4=>4 | 171=>371 | 0=>0 | 53=>128 | 37=>230 | 5=>5 | 173=>373 | 212=>388 | 51=>129 | 20=>20 | 213=>389 | 46=>188 | 232=>391 | 233=>392 | n=>n,g:=fun x=>match x with | 17=>0 | 18=>1 | 19=>2 | n=>n}
theorem Ahf:LaysM.n171 Go.Proofs.Tryz.prog Aqm:=by
 constructor
 constructor
 all_goals first | kernel_rfl | (intro w; kernel_rfl)
theorem St.grown {σ:Ar} {F:Ar} {W w:World} (s:St σ ι0 H0 F W w) (k:Nat) (os:Array Obj):St σ ι0 H0 F W (Sort.grow (w.drewN k) os):=by
 have hk:∀(b:Nat) (o:Obj),w.heap[b]? = some o->(Sort.grow (w.drewN k) os).heap[b]? = some o:=by
  intro b o h
  have c:=(Array.getElem?_eq_some_iff.1 h).1
  show (w.heap++os)[b]? = _
  rw [Array.getElem?_append_left c]; exact h
 exact ⟨fun b o h=>hk b o (s.sto b o h),fun b o h=>⟨hk b o (s.fra b o h).1,(s.fra b o h).2⟩,fun _=>rfl,(fun _ _ _ f=>by cases f),s.os,s.tape,s.output,s.glo⟩
theorem Aqn {σ:Ar} {ι:Bf} {H:Hp} {F:Ar} {W w:World} (s:St σ ι H F W w):Lib.TabIs Go.Proofs.Tryz.prog w "internal/strconv.uint64pow10" .u64 Lib.pow10Tab:=by
 obtain ⟨E,fr,e⟩:=s.glo
 have h:=s.sto _ _ e
 have g:Go.Proofs.Tryz.prog.globalNamed "internal/strconv.uint64pow10" = some 0:=Ahf.m17
 unfold Lib.TabIs World.var?
 rw [g]
 simp only [Option.bind_some,h]
theorem Rx {σ:Ar} {ι:Bf} {H:Hp} {x:O} {vs:Array Value} (h:Kr σ ι H [x] vs):∃v,vs = #[v]/\Conc σ ι H x v:=by
 obtain ⟨h1,h2⟩:=h
 have h1:vs.size=1:=h1
 refine ⟨vs[0],?_,h2 0 x _ rfl (by simp [h1])⟩
 apply Array.ext
 .simp [h1]
 .intro i hi b
  have:i=0:=by omega
  subst this; rfl
theorem Aqo {a0:Int} {r:ByteArray} (h:S7 a0=some r):Aw Go.Proofs.Tryz.prog 193 [Aa .i64 a0] (Fk r):=by
 unfold S7 at h
 split at h
 .rename_i hc
  cases h
  refine ⟨⟨_,Tryz.func193,by kernel_rfl,by kernel_rfl⟩,fun σ F W w vs s b=>?_⟩
  obtain ⟨v,rfl,c⟩:=Rx b
  have c:=c.val_inv
  subst c
  have:=Any.strconv_Itoa Ahf a0 hc.1 hc.2 w (Aqn s)
  refine this.mono ?_
  rintro e w' ⟨rfl,k,os,rfl⟩
  exact ⟨_,σ,rfl,Ar.le_refl σ,s.grown k os,.of_val _⟩
 .cases h
theorem Yf (o:Ba) (os:List Ba):hp (o::os) 0=o:=rfl
theorem Aqp (x:O) (rest:List Ba):Ck Go.Proofs.Tryz.prog 258 [.loc 0 0] (.cells 232 [.loc 0 0,x]::rest) (.tup []) (.cells 232 [.loc 0 0,x]::rest):=by
 refine ⟨⟨_,Tryz.func258,by kernel_rfl,by kernel_rfl⟩,fun σ F W w ι vs s f=>?_⟩
 obtain ⟨v,rfl,k⟩:=Rx f
 obtain ⟨b,hb,k⟩:=k.loc_inv
 subst k
 have l:=s.obj 0
 unfold Bx at l
 rw [Yf] at l
 obtain ⟨A,C,y,_,_,h3,u,z⟩:=l
 rw [hb] at y; cases y
 have u:C.size=2:=u
 have g:C[0]? = some C[0]:=by simp [u]
 have q:=z 0 (.loc 0 0) C[0] rfl g
 obtain ⟨b2,h,j⟩:=q.loc_inv
 rw [hb] at h; cases h
 have cell:w.cell? ⟨b,0,none⟩=some (.pointer (some ⟨b,0,none⟩)):=by
  rw [Ho h3,g,j]
 refine (Tryz.check_used b w cell).mono ?_
 rintro e w' ⟨rfl,rfl⟩
 exact ⟨_,σ,ι,rfl,Le.refl _ _ _,s,.tup _ _ rfl (fun i c v h1 _=>by cases h1)⟩
theorem Aqq (x:O) (rest:List Ba):Ck Go.Proofs.Tryz.prog 258 [.loc 0 0] (.cells 232 [.val (.pointer none),x]::rest) (.tup []) (.cells 232 [.loc 0 0,x]::rest):=by
 refine ⟨⟨_,Tryz.func258,by kernel_rfl,by kernel_rfl⟩,fun σ F W w ι vs s j=>?_⟩
 obtain ⟨v,rfl,q⟩:=Rx j
 obtain ⟨b,hb,q⟩:=q.loc_inv
 subst q
 have u:=s.obj 0
 unfold Bx at u
 rw [Yf] at u
 obtain ⟨E,C,A,_,_,h3,g,z⟩:=u
 rw [hb] at A; cases A
 have g:C.size=2:=g
 have k:C[0]? = some C[0]:=by simp [g]
 have l:=(z 0 (.val (.pointer none)) C[0] rfl k).val_inv
 have cell:w.cell? ⟨b,0,none⟩=some (.pointer none):=by
  rw [Ho h3,k,l]
 refine (Tryz.check_fresh b w cell (by simp [World.shape?,h3,g]) (by simp [World.frozen?,h3])).mono ?_
 rintro e w' ⟨rfl,rfl⟩
 obtain ⟨s',le⟩:=s.setBox 0 232 [.val (.pointer none),x] [.loc 0 0,x] rfl b hb #[.pointer (some ⟨b,0,none⟩),C[1]] rfl (by
  intro i c v h1 h2
  match i with
  | 0=>simp at h1 h2; subst h1; subst h2; exact .loc 0 0 b hb
  | 1=>simp at h1 h2; subst h1; subst h2; exact z 1 x _ rfl (by simp [g])
  | i+2=>simp at h1)
 have D:Ay (hp (.cells 232 [.val (.pointer none),x]::rest)) 0 (.cells 232 [.loc 0 0,x])=hp (.cells 232 [.loc 0 0,x]::rest):=by
  funext i
  cases i with
  | zero=>rfl
  | succ i=>rfl
 have B:w.setCell ⟨b,0,none⟩ (.pointer (some ⟨b,0,none⟩))=w.setRow b #[.pointer (some ⟨b,0,none⟩),C[1]]:=by
  have h:C.setIfInBounds 0 (.pointer (some ⟨b,0,none⟩)) = #[.pointer (some ⟨b,0,none⟩),C[1]]:=by
   apply Array.ext
   .simp [g]
   .intro i hi y
    match i with
    | 0=>simp
    | 1=>rw [Array.getElem_setIfInBounds_ne _ (by decide)]; rfl
    | i+2=>simp at y; omega
  have f:(w.setCell ⟨b,0,none⟩ (.pointer (some ⟨b,0,none⟩))).heap=(w.setRow b #[.pointer (some ⟨b,0,none⟩),C[1]]).heap:=by
   apply Array.ext_getElem?
   intro i
   simp only [World.setCell,World.setRow,Array.getElem?_modify]
   split
   .rename_i e; subst e
    rw [h3]; simp [h]
   .rfl
  unfold World.setCell World.setRow at f ⊢
  simp only at f
  rw [f]
 rw [D] at s' le
 rw [B]
 exact ⟨_,σ,ι,rfl,le,s',.tup _ _ rfl (fun i c v h1 _=>by cases h1)⟩
theorem Aqr {l:List Int} (h:∀x∈l,0<=x/\x<256) {j:Nat} {x:UInt8} (hx:(Ga l)[j]? = some x):l[j]? = some (x.toNat:Int):=by
 simp only [Ga,List.getElem?_map,Option.map_eq_some_iff] at hx
 obtain ⟨y,hy,rfl⟩:=hx
 have b:=h y (List.mem_of_getElem? hy)
 rw [hy]
 congr 1
 have:y.toNat<256:=by omega
 simp only [UInt8.toNat_ofNat']
 omega
theorem St.kill {σ:Ar} {ι:Bf} {H:Hp} {F:Ar} {W w:World} (s:St σ ι H F W w) (h:Nat):St σ ι (Ay H h .dead) F W w/\Le σ ι H σ ι (Ay H h .dead):=by
 have le:Le σ ι H σ ι (Ay H h .dead):=by
  have:=Le.upd (ι:=ι) (H:=H) (Ar.le_refl σ) h (ι h) .dead ⟨fun _ e=>e,(fun _ e=>by cases e),(fun _ k j i e=>by cases e)⟩
  rwa [Gr] at this
 obtain ⟨f1,f2⟩:=s.fresh
 refine ⟨s.touch h w.heap.size (fun _ _=>rfl) (fun x e=>Cp _ _ e) le (fun _ _=>rfl) (fun _ _=>rfl) (fun o g=>by rw [f1] at g; cases g) ?_ f2 ?_ ?_ rfl rfl rfl,le⟩
 .intro x _ c f
  have:=(s.block c f).1
  omega
 .intro b c
  rw [Bw] at c; cases c
 .unfold Bx
  rw [Bw]; trivial
theorem Aqs {p:O}:Ck Go.Proofs.Tryz.prog 195 [.loc 0 0] [.cells 232 [p,.arr 1 0 0 0],.rows 5 1 []] (Fk .empty) [.cells 232 [p,.arr 1 0 0 0],.dead]:=by
 refine ⟨⟨_,Tryz.func195,by kernel_rfl,by kernel_rfl⟩,fun σ F W w ι vs s u=>?_⟩
 obtain ⟨v,rfl,G⟩:=Rx u
 obtain ⟨b,hb,G⟩:=G.loc_inv
 subst G
 have I:=s.obj 0
 unfold Bx at I
 rw [Yf] at I
 obtain ⟨b',C,U,_,_,h3,z,Y⟩:=I
 rw [hb] at U; cases U
 have z:C.size=2:=z
 have X:C = #[C[0],C[1]]:=by
  apply Array.ext
  .simp [z]
  .intro i hi J
   match i with
   | 0=>rfl
   | 1=>rfl
   | i+2=>simp at J; omega
 have M:=Y 1 (.arr 1 0 0 0) C[1] rfl (by simp [z])
 have l:hp [Ba.cells 232 [p,.arr 1 0 0 0],.rows 5 1 []] 1 = .rows 5 1 []:=rfl
 have c:=M.arr_inv l (by simp)
 have hor:=s.obj 1
 unfold Bx at hor
 rw [l] at hor
 obtain ⟨_,R,hor⟩:=hor
 have Z:Ay (hp [Ba.cells 232 [p,.arr 1 0 0 0],.rows 5 1 []]) 1 .dead=hp [Ba.cells 232 [p,.arr 1 0 0 0],.dead]:=by
  funext i
  match i with
  | 0=>rfl
  | 1=>rfl
  | i+2=>rfl
 have go:∀(a q:Option Addr) (cap:Nat) (y:Ar) (h:World),C[1] = .slice a 0 cap->h.heap[b]? = w.heap[b]?->(Builtin.unsafeSliceData_ #[230] 304 #[.slice a 0 cap]).run Go.Proofs.Tryz.prog w.drew = .ok (.pointer q) h ->
   Le σ ι (hp [Ba.cells 232 [p,.arr 1 0 0 0],.rows 5 1 []]) y ι (hp [Ba.cells 232 [p,.arr 1 0 0 0],.rows 5 1 []])->St y ι (hp [Ba.cells 232 [p,.arr 1 0 0 0],.rows 5 1 []]) F W h ->
   Calls Go.Proofs.Tryz.prog 195 #[.pointer (some ⟨b,0,none⟩)] w fun e w'=>∃v A B,e = .returned v/\Le σ ι (hp [Ba.cells 232 [p,.arr 1 0 0 0],.rows 5 1 []]) A B (hp [Ba.cells 232 [p,.arr 1 0 0 0],.dead])/\St A B (hp [Ba.cells 232 [p,.arr 1 0 0 0],.dead]) F W w'/\Conc A B (hp [Ba.cells 232 [p,.arr 1 0 0 0],.dead]) (Fk .empty) v:=by
  intro a q cap y h f L N le s1
  have x:w.heap[b]? = some (.cells #[C[0],.slice a 0 cap] 232 (0,0)):=by
   rw [h3]; congr 1; rw [<-f,<-X]
  refine (Tryz.builder_str0 b cap C[0] a q w h x (L.trans x) N).mono ?_
  rintro e w' ⟨rfl,rfl⟩
  obtain ⟨s2,k⟩:=s1.kill 1
  rw [Z] at s2 k
  exact ⟨_,y,ι,rfl,le.trans k,s2,.of_val _⟩
 rcases hor with ⟨hi,_⟩ | ⟨g,j,D,V,g1,g2,g3,g4,g5,g6⟩
 .unfold Fh at c
  rw [hi] at c
  exact go none none 0 σ w.drew c.1 rfl rfl (Le.refl _ _ _) (s.drew _)
 .unfold Fh at c
  rw [V] at c
  simp only [Nat.zero_mul,Nat.zero_add,Nat.sub_zero] at c
  obtain ⟨_,f⟩:=c
  by_cases ht:j=0
  .subst ht
   obtain ⟨s1,E⟩:=(s.drew (w.drawn+1)).newFrozen (.view ⟨g,0,none⟩ 5)
   have S:=(Array.getElem?_eq_some_iff.1 h3).1
   refine go _ _ 0 _ (w.drew.alloc (.view ⟨g,0,none⟩ 5)) f ?_ (Lib.run_unsafeSliceData_zero _ _ _ 5 Tryz.underlying304 _ _ (5,D.size) (by
    have:w.drew.heap[g]? = some (.cells D 5 (0,0)):=g3
    simp [World.shape?,this])) E s1
   show (w.heap.push _)[b]? = _
   rw [Array.getElem?_push,if_neg (by omega)]
  .exact go _ _ j σ w.drew f rfl (Lib.run_unsafeSliceData_row _ _ _ _ _ _ ht) (Le.refl _ _ _) (s.drew _)
theorem Aqt {p:O} {l:List Int} {r:ByteArray} (h:W3 l=some r):Ck Go.Proofs.Tryz.prog 195 [.loc 0 0] [.cells 232 [p,.arr 1 l.length 0 l.length],.rows 5 1 (List.map (Aa .u8) l)] (Fk r) [.cells 232 [p,.arr 1 l.length 0 l.length],.dead]:=by
 unfold W3 at h
 split at h
 .rename_i X
  cases h
  by_cases u:l = []
  .subst u; exact Aqs
  refine ⟨⟨_,Tryz.func195,by kernel_rfl,by kernel_rfl⟩,fun σ F W w ι vs s J=>?_⟩
  obtain ⟨v,rfl,N⟩:=Rx J
  obtain ⟨b,hb,N⟩:=N.loc_inv
  subst N
  have y:=s.obj 0
  unfold Bx at y
  rw [Yf] at y
  obtain ⟨b',C,e1,_,_,h3,M,h5⟩:=y
  rw [hb] at e1; cases e1
  have M:C.size=2:=M
  have hC:C = #[C[0],C[1]]:=by
   apply Array.ext
   .simp [M]
   .intro i hi S
    match i with
    | 0=>rfl
    | 1=>rfl
    | i+2=>simp at S; omega
  have V:=h5 1 (.arr 1 l.length 0 l.length) C[1] rfl (by simp [M])
  have I:hp [Ba.cells 232 [p,.arr 1 l.length 0 l.length],.rows 5 1 (List.map (Aa .u8) l)] 1 = .rows 5 1 (List.map (Aa .u8) l):=rfl
  have k:=V.arr_inv I (by simp)
  have hor:=s.obj 1
  unfold Bx at hor
  rw [I] at hor
  obtain ⟨_,G,hor⟩:=hor
  rw [List.length_map] at G
  rcases hor with ⟨_,E⟩ | ⟨g,q,D,hg,g1,g2,g3,g4,g5,g6⟩
  .exact (u (by simpa using E)).elim
  .rw [List.length_map] at g5
   unfold Fh at k
   rw [hg] at k
   simp only [Nat.zero_mul,Nat.zero_add,Nat.sub_zero] at k
   obtain ⟨ht,B⟩:=k
   have c:(Ga l).length=l.length:=by simp [Ga]
   have f:∀(j:Nat) (x:UInt8),(Ga l)[j]? = some x->D[j]? = some (Value.int .u8 x.toNat):=by
    intro j x hx
    have hj:=Aqr X hx
    obtain ⟨gg,q1,q2,q3⟩:=g6
    have A:(List.map (Aa .u8) l)[j]? = some (Aa .u8 x.toNat):=by rw [List.getElem?_map,hj]; rfl
    have R:j<(List.map (Aa .u8) l).length:=(List.getElem?_eq_some_iff.1 A).1
    have q4:=q3 j 0 R (by omega)
    have q5:=(q2 j _ 0 _ A rfl).1
    have:gg j 0=Value.int .u8 x.toNat:=by
     generalize gg j 0=z at q5
     cases q5; rfl
    rw [this] at q4
    simpa using q4
   have Z:w.heap[b]? = some (.cells #[C[0],.slice (some ⟨g,0,none⟩) (Ga l).length q] 232 (0,0)):=by
    rw [h3]; congr 1; rw [c]
    have:C[1] = .slice (some ⟨g,0,none⟩) l.length q:=B
    rw [<-this,<-hC]
   have a1:l.length<=D.size:=by rw [g4]; omega
   have call:=Tryz.builder_str b g q C[0] D (Ga l) w (by intro e; apply u; rw [<-List.length_eq_zero_iff,<-c,e]; rfl) Z g3 (by rw [c]; exact g5) (by rw [c]; exact a1) (by rw [c]; omega) f
   refine call.mono ?_
   rintro e w' ⟨rfl,rfl⟩
   have le:Le σ ι (hp [Ba.cells 232 [p,.arr 1 l.length 0 l.length],.rows 5 1 (List.map (Aa .u8) l)]) σ ι (Ay (hp [Ba.cells 232 [p,.arr 1 l.length 0 l.length],.rows 5 1 (List.map (Aa .u8) l)]) 1 .dead):=by
    have:=Le.upd (ι:=ι) (H:=hp [Ba.cells 232 [p,.arr 1 l.length 0 l.length],.rows 5 1 (List.map (Aa .u8) l)]) (Ar.le_refl σ) 1 (ι 1) .dead ⟨fun _ e=>e,(fun _ e=>by cases e),(fun _ E1 a7 a6 e=>by cases e)⟩
    rwa [Gr] at this
   have eH:Ay (hp [Ba.cells 232 [p,.arr 1 l.length 0 l.length],.rows 5 1 (List.map (Aa .u8) l)]) 1 .dead=hp [Ba.cells 232 [p,.arr 1 l.length 0 l.length],.dead]:=by
    funext i
    match i with
    | 0=>rfl
    | 1=>rfl
    | i+2=>rfl
   have s2:St σ ι (Ay (hp [Ba.cells 232 [p,.arr 1 l.length 0 l.length],.rows 5 1 (List.map (Aa .u8) l)]) 1 .dead) F W (w.drew.freeze ⟨g,0,none⟩ (Ga l).length):=by
    have U:∀b,b≠g->(w.drew.freeze ⟨g,0,none⟩ (Ga l).length).heap[b]? = w.heap[b]?:=by
     intro b hb
     unfold World.freeze
     split
     .rfl
     .simp only [Array.getElem?_modify]
      rw [if_neg (Ne.symm hb)]; rfl
    refine s.touch 1 g (fun _ _=>rfl) (fun x e=>Cp _ _ e) le U (fun _ _=>rfl) (fun o y=>by rw [g1] at y; cases y) ?_ g2 ?_ ?_ ?_ ?_ ?_
    .intro x hx L Y
     exact hx (s.inj x 1 g L rfl Y (by rw [hg]; rfl))
    .intro b0 L
     rw [Bw] at L; cases L
    .unfold Bx
     rw [Bw]; trivial
    .unfold World.freeze; split <;> rfl
    .unfold World.freeze; split <;> rfl
    .unfold World.freeze; split <;> rfl
   rw [eH] at le s2
   exact ⟨_,σ,ι,rfl,le,s2,.of_val _⟩
 .cases h
end Go.Ab
namespace Go.Ab
open Go Go.Proofs
set_option linter.unusedVariables false
class OK {α:Type} (o:Option α) (G:outParam (α->Prop)):Prop where
 ok:∀{r:α},o=some r->G r
theorem okz {α:Type} {G:α->Prop}:OK (none:Option α) G:=⟨fun h=>by cases h⟩
section
variable {P:Program} {C:Cfg} {Qn:Nat->Bc->Hp->Prop} {Qe:Nat->Nat->Bc->Hp->Prop} {Qr:Nat->Bc->Hp->Prop} {n:Nat} {e:Bc} {H:Hp} {β:Type} {r:β}
variable {T:B7} {an:Nat->Ann} {nl:Nat->List (Nat×Nat)} {ops:Array Oper} {o:Oper} {os:List Oper} {acc:Gk} {K:Nat->Bc->Hp->Gk->Prop}
theorem F2 {p:Nat×Bool} {s:Nat} {b:Bool} {m m':Option β} (h:(bif b then m else m')=some r) (h1:b=true->m=some r->D2 (Dt P T an nl ops (o::os) n (Ay e s (.val (.bool true))) H acc K))
  (h2:b=false->m'=some r->D2 (Dt P T an nl ops (o::os) n (Ay e s (.val (.bool false))) H acc K)) (hg:o.guard=some p:=by exact rfl) (hs:(ops[p.1]?).bind (·.dst)=some s:=by exact rfl) (hb:e s = .val (.bool b):=by exact rfl):D2 (Dt P T an nl ops (o::os) n e H acc K):=Apu h h1 h2 hb
theorem nw {c:Code} (k:wc P C c Qn Qe Qr n e H):D2 (wc P C c Qn Qe Qr n e H):=.mk k
theorem C3 {S E:Type} {o:S⊕E} {J:E->Option β} {x:E} (h:some (Sum.inr x)=some o) (hx:∀x,Sum.inr x=o->J x=some r:=by assumption):J x=some r:=hx x (Option.some.inj h)
theorem lpj {S:Type} {o:S} {J:S->Option β} {x:S} (h:some x=some o) (hx:∀y,y=o->J y=some r:=by assumption):J x=some r:=hx x (Option.some.inj h)
theorem lpn {S E:Type} {o:S⊕E} {s':S} {K:Nat->Bc->Hp->Prop} {iv:S->List (Nat×O)} {hv:S->List (Nat×Ba)} {inv:S->Prop} {n0:Nat} {H0:Hp} (h:some (Sum.inl s')=some o) (hn:∀s' n' e' H',Sum.inl s'=o->Fr e' (iv s')->Fs H' (Bv H0 (hv s')) n0 n0->inv s'->K n' e' H':=by assumption)
  (hs:Fr e (iv s'):=by (repeat refine ⟨rfl,?_⟩); exact trivial) (hh:Fs H (Bv H0 (hv s')) n0 n0:=by (repeat refine ⟨⟨rfl,rfl⟩,?_⟩); exact trivial) (hi:inv s':=by first | trivial | exact rfl | ((repeat refine Ge ?_ _ _); first | exact rfl | assumption)):K n e H:=hn s' n e H (Option.some.inj h) hs hh hi
theorem jnn {S E:Type} {o x:E} {s:S} {J:S->Prop} {K:Nat->Bc->Hp->Prop} {iv:S->List (Nat×O)} {hv:S->List (Nat×Ba)} {n0:Nat} {H0:Hp} (h:some x=some o) (hn:∀s n' e' H',J s->Fr e' (iv s)->Fs H' (Bv H0 (hv s)) n0 n0->K n' e' H':=by assumption) (hJ:J s:=by exact Option.some.inj h)
  (hs:Fr e (iv s):=by (repeat refine ⟨rfl,?_⟩); exact trivial) (hh:Fs H (Bv H0 (hv s)) n0 n0:=by (repeat refine ⟨⟨rfl,rfl⟩,?_⟩); exact trivial):K n e H:=hn s n e H hJ hs hh
theorem Bt {α:Type} {o:Option α} {m:α->Option β} {f:FuncId} {args:List O} {G:α->Prop} {ra:α->O} {K:Eff->Nat->Prop} (h:o.bind m=some r) [i:OK o G] (k:∀v,m v=some r->K ⟨ra v,[],[]⟩ n) (hG:∀v,G v->Aw P f args (ra v):=by exact fun _ h=>h) (hf:args.all O.free=true:=by exact rfl):Hh P n H f args K :=
 Dx h fun v hv h=>Hh.mk _ (hG v (i.ok hv)) hf (k v h)
theorem Yg {α:Type} {o:Option α} {m:α->Option β} {f:FuncId} {args args':List O} {G:α->Prop} {ra:α->O} {K:Eff->Nat->Prop} (h:o.bind m=some r) [i:OK o G] (k:∀v,m v=some r->K ⟨ra v,[],[]⟩ n) (hG:∀v,G v->Aw P f args' (ra v):=by exact fun _ h=>h) (hs:Of args args':=by (repeat first | refine ⟨Sub.refl _,?_⟩ | refine ⟨Sub.nil _,?_⟩); exact trivial) (hf:args.all O.free=true:=by exact rfl):Hh P n H f args K :=
 Dx h fun v hv h=>Hh.mk _ (Aw.sub (hG v (i.ok hv)) hs (Sub.refl _)) hf (k v h)
theorem B5 {α:Type} {o:Option α} {m:α->Option β} {f:FuncId} {args largs:List O} {G:α->Prop} {ra:α->O} {hs:List Ba} {hs':α->List Ba} {K:Eff->Nat->Prop} (l:List Nat) (h:o.bind m=some r) [i:OK o G] (k:∀v,m v=some r->K ⟨ren (Dc n l) (ra v),wrs (Dc n l) 0 hs++Bo (Dc n l) l.length ((hs' v).length-l.length),wrs (Dc n l) 0 (hs' v)⟩ (n+((hs' v).length-l.length)))
  (hG:∀v,G v->Ck P f largs hs (ra v) (hs' v):=by exact fun _ h=>h) (ha:largs.map (ren (Dc n l))=args:=by exact rfl) (ok:∀v,P6 n l largs hs (ra v) (hs' v)=true:=by exact fun _=>rfl) (hh:N6 H (wrs (Dc n l) 0 hs):=by (repeat refine ⟨rfl,?_⟩); exact trivial):Hh P n H f args K :=
 Dx h fun v hv h=>Hh.act l largs hs (ra v) (hs' v) (hG v (i.ok hv)) ha (ok v) hh (k v h)
theorem B1 {α:Type} {l:List α} {f:α->O} {ys:List O} {i:Int} {m:α->Option β} {K:Nat->O->Prop} (h:(Ae l i).bind m=some r) (k:∀(n:Nat) (x:α),i=n->l[n]? = some x->m x=some r->K n (f x)) (he:ys=l.map f:=by first | exact rfl | exact Ig _ | exact Jj _ | exact Hi _):Sy ys i K:=Apv he h k
theorem Ik {α:Type} {l:List α} {f:α->O} {ys:List O} {i:Int} {m:α->Option β} {K:Nat->Prop} {len kk:Nat} (h:(Ae l i).bind m=some r) (k:∀(n:Nat) (x:α),i=n->l[n]? = some x->m x=some r->K n) (he:ys=l.map f:=by first | exact rfl | exact Ig _ | exact Jj _ | exact Hi _) (hl:len=l.length:=by first | exact rfl | assumption | exact H8 (by assumption) | ((repeat refine Ge ?_ _ _); first | exact rfl | assumption)) (hk:kk=l.length:=by first | exact rfl | assumption | exact H8 (by assumption) | ((repeat refine Ge ?_ _ _); first | exact rfl | assumption)):N7 len kk ys i K:=Apw he hl hk h k
theorem Jl {α:Type} {l:List α} {f:α->O} {ys:List O} {i:Int} {m:α->Option β} {K:Nat->Prop} {off len kk:Nat} (h:(Fj l off len i).bind m=some r) (k:∀(n:Nat) (x:α),i=n->l[off+n]? = some x->m x=some r->K n) (he:ys=l.map f:=by first | exact rfl | exact Ig _ | exact Jj _ | exact Hi _) (hk:kk=l.length:=by first | exact rfl | assumption | exact H8 (by assumption) | ((repeat refine Ge ?_ _ _); first | exact rfl | assumption)):N7 len kk ys i K:=Apx he hk h k
theorem Nd {α:Type} {l:List α} {f:α->O} {ys:List O} {K:Int->Prop} (k:K (l.length:Int)) (he:ys=l.map f:=by first | exact rfl | exact Ig _ | exact Jj _ | exact Hi _):J4 ys K:=Aqa he k
theorem Nf {α:Type} {l:List α} {f:α->O} {ys:List O} {kk:Nat} {K:Prop} (k:K) (he:ys=l.map f:=by first | exact rfl | exact Ig _ | exact Jj _ | exact Hi _) (hk:kk=l.length:=by first | exact rfl | assumption | exact H8 (by assumption) | ((repeat refine Ge ?_ _ _); first | exact rfl | assumption)):Fi kk ys K:=Aqb he hk k
theorem Ng {K:Prop} (k:K):Fi 0 [] K:=.mk rfl k
theorem Nh {α:Type} {l:List α} {f:α->O} {ys:List O} {n i kk:Nat} {x:α} {K:O->Prop} (k:K (f x)) (he:ys=l.map f:=by first | exact rfl | exact Ig _ | exact Jj _ | exact Hi _) (hk:kk=l.length:=by first | exact rfl | assumption | exact H8 (by assumption) | ((repeat refine Ge ?_ _ _); first | exact rfl | assumption)) (hi:i=n/\l[n]? = some x:=by first | exact ⟨Nat.zero_add _,by assumption⟩ | exact ⟨rfl,by assumption⟩):Jb kk i ys K:=Ap2 he hk hi.1 hi.2 k
theorem Ahg {α:Type} {l:List α} {f:α->O} {ys:List O} {n i:Nat} {j:Int} {x:α} {p:O} {K:List O->Prop} (k:K ((Cq l j x).map f)) (he:ys=l.map f:=by first | exact rfl | exact Ig _ | exact Jj _ | exact Hi _) (hp:p=f x:=by exact rfl) (hi:i=n/\j=(n:Int):=by first | exact ⟨Nat.zero_add _,by assumption⟩ | exact ⟨rfl,by assumption⟩ | exact ⟨rfl,Ago _ (by assumption)⟩):P8 ys i p K:=Kv he hp hi.1 hi.2 k
theorem U2 {α:Type} {l ys:List α} {f:α->O} {xs zs:List O} {b kk len:Nat} {m:List α->Option β} {K:List O->Nat->Prop} {KP:List O->Nat->Nat->Prop} (h:(Bl b l ys).bind m=some r) (k:∀o:List α,m o=some r->K (o.map f) o.length) (he:xs=l.map f/\zs=ys.map f:=by first | exact ⟨rfl,rfl⟩ | (refine ⟨?_,?_⟩; rotate_left; exact rfl; exact rfl)) (hk:kk=l.length:=by first | exact rfl | assumption | exact H8 (by assumption) | ((repeat refine Ge ?_ _ _); first | exact rfl | assumption)) (hl:len=l.length:=by first | exact rfl | assumption | exact H8 (by assumption) | ((repeat refine Ge ?_ _ _); first | exact rfl | assumption)):Kt xs zs kk len b K KP:=Abi he.1 he.2 hk hl h k
theorem Ahh {l:List Int} {s:ByteArray} {xs:List O} {b kk len:Nat} {m:List Int->Option β} {K:List O->Nat->Prop} {KP:List O->Nat->Nat->Prop} (h:(Bl b l (Lk s)).bind m=some r) (k:∀o:List Int,m o=some r->K (o.map fun n=>.val (.int .u8 n)) o.length) (he:xs=l.map fun n=>.val (.int .u8 n):=by exact rfl) (hk:kk=l.length:=by first | exact rfl | assumption | exact H8 (by assumption) | ((repeat refine Ge ?_ _ _); first | exact rfl | assumption)) (hl:len=l.length:=by first | exact rfl | assumption | exact H8 (by assumption) | ((repeat refine Ge ?_ _ _); first | exact rfl | assumption)):Kt xs (G5 s) kk len b K KP:=Ap5 he hk hl h k
class GL {α:Type} (g:List α->List O) (f:outParam (α->O)):Prop where
 eq:∀l,g l=l.map f
instance:GL Bd Da:=⟨Ig⟩
instance:GL Gw E7:=⟨Jj⟩
instance:GL E5 E6:=⟨Hi⟩
theorem Acx {α:Type} {g:List α->List O} {f:α->O} [i:GL g f] {l ys:List α} {zs:List O} {b kk len:Nat} {m:List α->Option β} {K:List O->Nat->Prop} {KP:List O->Nat->Nat->Prop} (h:(Bl b l ys).bind m=some r) (k:∀o:List α,m o=some r->K (g o) o.length) (hz:zs=ys.map f:=by first | exact rfl | exact GL.eq _) (hk:kk=l.length:=by first | exact rfl | assumption | exact H8 (by assumption) | ((repeat refine Ge ?_ _ _); first | exact rfl | assumption)) (hl:len=l.length:=by first | exact rfl | assumption | exact H8 (by assumption) | ((repeat refine Ge ?_ _ _); first | exact rfl | assumption)):Kt (g l) zs kk len b K KP:=Ap6 i.eq (i.eq l) hz hk hl h k
theorem Ahi {α:Type} {ys:List α} {f:α->O} {zs:List O} {b:Nat} {m:List α->Option β} {K:List O->Nat->Prop} (h:(Bl b [] ys).bind m=some r) (k:∀o:List α,m o=some r->K (o.map f) o.length) (hz:zs=ys.map f:=by exact rfl):N9 zs b K:=Agz hz h k
theorem Ahj {α:Type} {g:List α->List O} {f:α->O} [i:GL g f] {ys:List α} {zs:List O} {b:Nat} {m:List α->Option β} {K:List O->Nat->Prop} (h:(Bl b [] ys).bind m=some r) (k:∀o:List α,m o=some r->K (g o) o.length) (hz:zs=g ys:=by exact rfl):N9 zs b K:=Ap7 i.eq (hz.trans (i.eq ys)) h k
theorem Gb {α:Type} {z:α} {f:α->O} {za:O} {len cap:Int} {b:Nat} {m:List α->Option β} {K:Nat->List O->Prop} (h:(Eu b len cap z).bind m=some r) (k:∀o:List α,m o=some r->K o.length (o.map f)) (hz:za=f z:=by first | exact (rfl:_=Aa _ _) | exact (rfl:_=Ao _) | exact rfl):P7 len cap b za K:=Ap8 hz h k
theorem Acy {α:Type} {l:List α} {f:α->O} {ys:List O} {lo hi:Int} {m:List α->Option β} {K:List O->Prop} (h:(Gl l lo hi).bind m=some r) (k:∀l':List α,m l'=some r->K (l'.map f)) (he:ys=l.map f:=by first | exact rfl | exact Ig _ | exact Jj _ | exact Hi _):N8 ys lo hi K:=Agy he h k
theorem Ahk {α:Type} {l:List α} {f:α->O} {ys:List O} {lo:Int} {m:List α->Option β} {K:List O->Prop} (h:(Gl l lo l.length).bind m=some r) (k:∀l':List α,m l'=some r->K (l'.map f)) (he:ys=l.map f:=by first | exact rfl | exact Ig _ | exact Jj _ | exact Hi _):N8 ys lo ys.length K:=Ap4 he h k
theorem Fy {S E:Type} {step:S->Option (S⊕E)} {s0:S} {J:E->Option β} {b:Code} (h:(Ak step s0).bind J=some r) (iv:S->List (Nat×O)) (hv:S->List (Nat×Ba)) (inv:S->Prop)
  (body:∀(s:S) (u:Nat->Value) (K:Nat->Bc->Hp->Prop) (o:S⊕E),step s=some o->(∀x,.inr x=o->J x=some r)->(∀s' n' e' H',.inl s'=o->Fr e' (iv s')->Fs H' (Bv H (hv s')) n n->inv s'->K n' e' H')->inv s ->
   wc P C b K Qe Qr n (H7 (D7 b) e u (iv s)) (Bv H (hv s)))
  (hb:∀s,Iz n (iv s) (hv s)=true:=by exact fun _=>rfl) (hs:Fr e (iv s0):=by (repeat refine ⟨rfl,?_⟩); exact trivial) (hh:Fs H (Bv H (hv s0)) n n:=by (repeat refine ⟨⟨rfl,rfl⟩,?_⟩); exact trivial) (h0:inv s0:=by first | exact rfl | assumption | exact H8 (by assumption) | ((repeat refine Ge ?_ _ _); first | exact rfl | assumption)):wc P C (.loop b) Qn Qe Qr n e H:=Ag8 h iv hv inv hb hs hh h0 body
theorem A9 {S E:Type} {step:S->Option (S⊕E)} {s0:S} {J:E->Option β} {b:Code} (h:(Ak step s0).bind J=some r) (iv:S->List (Nat×O)) (hv:S->List (Nat×Ba))
  (body:∀(s:S) (u:Nat->Value) (K:Nat->Bc->Hp->Prop) (o:S⊕E),step s=some o->(∀x,.inr x=o->J x=some r)->(∀s' n' e' H',.inl s'=o->Fr e' (iv s')->Fs H' (Bv H (hv s')) n n->True->K n' e' H') ->
   wc P C b K Qe Qr n (H7 (D7 b) e u (iv s)) (Bv H (hv s)))
  (hb:∀s,Iz n (iv s) (hv s)=true:=by exact fun _=>rfl) (hs:Fr e (iv s0):=by (repeat refine ⟨rfl,?_⟩); exact trivial) (hh:Fs H (Bv H (hv s0)) n n:=by (repeat refine ⟨⟨rfl,rfl⟩,?_⟩); exact trivial):wc P C (.loop b) Qn Qe Qr n e H:=Ag8 h iv hv (fun _=>True) hb hs hh trivial fun s u K o h1 h2 h3 _=>body s u K o h1 h2 h3
theorem Yh {S S':Type} {c:Code} {o:Option S'} {m:S'->Option β} (inj:S->S') (h:o.bind m=some r) (iv:S->List (Nat×O)) (hv:S->List (Nat×Ba))
  (k1:∀x,o=some x->∀(K:Nat->Bc->Hp->Prop),(∀s n' e' H',inj s=x->Fr e' (iv s)->Fs H' (Bv H (hv s)) n n->K n' e' H')->(∀y,y=x->m y=some r)->wc P C c K Qe Qr n e H)
  (k2:∀(s:S) (u:Nat->Value),m (inj s)=some r->Qn n (H7 (D7 c) e u (iv s)) (Bv H (hv s))) (hb:∀s,Iz n (iv s) (hv s)=true:=by exact fun _=>rfl):wc P C c Qn Qe Qr n e H :=
 Ags h fun x hx hj=>Abr (fun s=>inj s=x) iv hv hb (fun K hK=>k1 x hx K hK hj) fun s u hs=>k2 s u (hj _ hs)
theorem Cd {S:Type} {c:Code} {o:Option S} {m:S->Option β} (h:o.bind m=some r) (iv:S->List (Nat×O)) (hv:S->List (Nat×Ba))
  (k1:∀x,o=some x->∀(K:Nat->Bc->Hp->Prop),(∀s n' e' H',s=x->Fr e' (iv s)->Fs H' (Bv H (hv s)) n n->K n' e' H')->(∀y,y=x->m y=some r)->wc P C c K Qe Qr n e H)
  (k2:∀(s:S) (u:Nat->Value),m s=some r->Qn n (H7 (D7 c) e u (iv s)) (Bv H (hv s))) (hb:∀s,Iz n (iv s) (hv s)=true:=by exact fun _=>rfl):wc P C c Qn Qe Qr n e H:=Yh (fun s=>s) h iv hv k1 k2 hb
abbrev C0:Cfg:={T:=Cf,an:=fun _=>.ask}
theorem pw {f:FuncId} {fn:Func} {c:Code} {args:List O} {r:O} (C:Cfg) (hf:Go.Proofs.Tryz.prog.funcs[f]? = some fn) (hv:wc Go.Proofs.Tryz.prog C c (fun _ e H=>Ob C.T fn.results.toList (· = r) e H) (fun _ _ _ _=>False) (fun _ e H=>Ob C.T fn.results.toList (· = r) e H) 0 (Qf args) H0)
   (hT:C.T=Cf:=by exact rfl) (hb:fn.body=some c:=by exact rfl) (hname:(fn.name == "runtime.NumGoroutine")=false:=by kernel_rfl) (hok:Qg fn c args.length=true:=by kernel_rfl) (hfree:r.free=true:=by exact rfl):Aw Go.Proofs.Tryz.prog f args r:=Aqe (by rw [hT]; exact Ag9) S4 hf hb hname hok hfree hv
theorem aw {f:FuncId} {fn:Func} {c:Code} {args:List O} {r:O} {hs hs':List Ba} (C:Cfg) (fz:Bool) (hf:Go.Proofs.Tryz.prog.funcs[f]? = some fn) (hv:wc Go.Proofs.Tryz.prog C c (fun _ e H=>Oe C.T fz fn.results.toList r hs' e H) (fun _ _ _ _=>False) (fun _ e H=>Oe C.T fz fn.results.toList r hs' e H) hs.length (Qf args) (hp hs))
   (hT:C.T=Cf:=by exact rfl) (hb:fn.body=some c:=by exact rfl) (hname:(fn.name == "runtime.NumGoroutine")=false:=by kernel_rfl) (hok:Qg fn c args.length=true:=by kernel_rfl) (hok':Abd hs r hs'=true:=by exact rfl):Ck Go.Proofs.Tryz.prog f args hs r hs':=Aqf fz (by rw [hT]; exact Ag9) S4 hf hb hname hok hok' hv
end
theorem opk {P:Program} {T:B7} {an:Nat->Ann} {nl:Nat->List (Nat×Nat)} {o:Oper} {n:Nat} {e:Bc} {H:Hp} {acc:Gk} {K:Nat->Bc->Hp->Gk->Prop} (k:opK P T an nl o n e H acc K):opK P T an nl o n e H acc K:=k
theorem cnd {t:Bool} {A B:Prop} (k:bif t then A else B):bif t then A else B:=k
structure Hd (Q:Prop):Prop where
 get:Q
theorem Z {P Q:Prop} (k:Q) (h:Hd Q->P:=by
  intro q
  repeat first
    | ((with_reducible show D2 (Dt _ _ _ _ _ (_::_) _ _ _ _ _)); (first | refine nx ?_ | refine Ml ?_ | refine Mk ?_))
    | ((with_reducible refine opk ?_); conv=>whnf
       first
      | ((with_reducible show D2 _); refine nw ?_)
      | ((with_reducible show F9 _ _ _); refine F9.mk _ rfl ?_)
      | ((with_reducible show J4 _ _); refine Nd ?_)
      | ((with_reducible show Jb _ _ _ _); refine Nh ?_)
      | ((with_reducible show Fi _ _ _); (first | refine Nf ?_ | refine Ng ?_)))
    | ((with_reducible show D2 (Dt _ _ _ _ _ [] _ _ _ _ _)); refine Li ?_)
    | ((with_reducible show D2 (wc _ _ _ _ _ _ _ _ _)); refine nw ?_)
    | with_reducible refine A6 ?_
    | with_reducible refine B9 ?_
    | with_reducible refine Abo ?_
    | with_reducible refine Ll ?_
    | with_reducible refine Oi ?_
    | with_reducible refine Hx ?_
    | with_reducible refine Ag5 ?_
    | with_reducible refine Abq ?_
    | with_reducible refine Abp ?_
    | ((with_reducible refine cnd ?_); first | refine Hr rfl ?_ | refine Aa8 rfl ?_)
    | ((with_reducible show J8 _ _ _); refine J8.mk (by kernel_rfl) ?_)
    | ((with_reducible show wc _ _ (.cond _ _ _) _ _ _ _ _ _); first | refine W9 ?_ | refine Xa ?_)
    | refine nw ?_
    | refine nx ?_
    | refine Li ?_
    | refine Ml ?_
    | refine Mk ?_
    | (conv=>whnf
       first
      | ((with_reducible show D2 _); refine nw ?_)
      | ((with_reducible show F9 _ _ _); refine F9.mk _ rfl ?_)
      | ((with_reducible show J4 _ _); refine Nd ?_)
      | ((with_reducible show Jb _ _ _ _); refine Nh ?_)
      | ((with_reducible show Fi _ _ _); (first | refine Nf ?_ | refine Ng ?_)))
  exact q.get):P:=h ⟨k⟩
theorem ZS {P Q:Prop} (k:Q) (h:Hd Q->P:=by
  intro q
  repeat first
    | ((with_reducible show D2 (Dt _ _ _ _ _ (_::_) _ _ _ _ _)); (first | refine nx ?_ | refine Ml ?_ | refine Mk ?_))
    | ((with_reducible refine opk ?_); conv=>whnf
       first
      | ((with_reducible show D2 _); refine nw ?_)
      | ((with_reducible show F9 _ _ _); refine F9.mk _ rfl ?_)
      | ((with_reducible show J4 _ _); refine Nd ?_)
      | ((with_reducible show Jb _ _ _ _); refine Nh ?_)
      | ((with_reducible show Fi _ _ _); (first | refine Nf ?_ | refine Ng ?_)))
    | ((with_reducible show D2 (Dt _ _ _ _ _ [] _ _ _ _ _)); refine Li ?_)
    | ((with_reducible show D2 (wc _ _ _ _ _ _ _ _ _)); refine nw ?_)
    | with_reducible refine A6 ?_
    | with_reducible refine Abo ?_
    | with_reducible refine Ll ?_
    | with_reducible refine Oi ?_
    | with_reducible refine Hx ?_
    | with_reducible refine Abq ?_
    | with_reducible refine Abp ?_
    | ((with_reducible refine cnd ?_); first | refine Hr rfl ?_ | refine Aa8 rfl ?_)
    | ((with_reducible show J8 _ _ _); refine J8.mk (by kernel_rfl) ?_)
    | ((with_reducible show wc _ _ (.cond _ _ _) _ _ _ _ _ _); first | refine W9 ?_ | refine Xa ?_)
    | refine nw ?_
    | refine nx ?_
    | refine Li ?_
    | refine Ml ?_
    | refine Mk ?_
    | (conv=>whnf
       first
      | ((with_reducible show D2 _); refine nw ?_)
      | ((with_reducible show F9 _ _ _); refine F9.mk _ rfl ?_)
      | ((with_reducible show J4 _ _); refine Nd ?_)
      | ((with_reducible show Jb _ _ _ _); refine Nh ?_)
      | ((with_reducible show Fi _ _ _); (first | refine Nf ?_ | refine Ng ?_)))
  exact q.get):P:=h ⟨k⟩
theorem ZO {P Q:Prop} (k:Q) (h:Hd Q->P:=by
  intro q
  repeat first
    | ((with_reducible show D2 (Dt _ _ _ _ _ (_::_) _ _ _ _ _)); (first | refine nx ?_ | refine Ml ?_ | refine Mk ?_))
    | ((with_reducible refine opk ?_); conv=>whnf
       first
      | ((with_reducible show F9 _ _ _); refine F9.mk _ rfl ?_)
      | ((with_reducible show J4 _ _); refine Nd ?_)
      | ((with_reducible show Jb _ _ _ _); refine Nh ?_)
      | ((with_reducible show Fi _ _ _); (first | refine Nf ?_ | refine Ng ?_)))
    | ((with_reducible show D2 (Dt _ _ _ _ _ [] _ _ _ _ _)); refine Li ?_)
    | ((with_reducible show J8 _ _ _); refine J8.mk (by kernel_rfl) ?_)
    | refine nx ?_
    | refine Li ?_
    | refine Ml ?_
    | refine Mk ?_
    | (conv=>whnf
       first
      | ((with_reducible show F9 _ _ _); refine F9.mk _ rfl ?_)
      | ((with_reducible show J4 _ _); refine Nd ?_)
      | ((with_reducible show Jb _ _ _ _); refine Nh ?_)
      | ((with_reducible show Fi _ _ _); (first | refine Nf ?_ | refine Ng ?_)))
  exact q.get):P:=h ⟨k⟩
theorem Y {P:Prop} (h:P:=by
  repeat' first
    | ((with_reducible show D2 (Dt _ _ _ _ _ (_::_) _ _ _ _ _)); first | refine nx ?_ | refine Ml ?_ | refine Mk ?_ | refine F2 h (fun _ h=>?_) (fun _ h=>?_))
    | ((with_reducible refine opk ?_); conv=>whnf
       first
      | ((with_reducible show D2 _); refine nw ?_)
      | ((with_reducible show F9 _ _ _); refine F9.mk _ rfl ?_)
      | ((with_reducible show J4 _ _); refine Nd ?_)
      | ((with_reducible show Hh _ _ _ _ _ _); (first | refine Bt h (fun _ h=>?_) | refine Yg h (fun _ h=>?_)))
      | ((with_reducible show Sy _ _ _); refine B1 h (fun _ _ _ _ h=>?_))
      | ((with_reducible show N7 _ _ _ _ _); (first | refine Ik h (fun _ _ _ _ h=>?_) | refine Jl h (fun _ _ _ _ h=>?_)))
      | ((with_reducible show Jb _ _ _ _); refine Nh ?_)
      | ((with_reducible show P8 _ _ _ _); refine Ahg ?_)
      | ((with_reducible show Kt _ _ _ _ _ _ _); (first | refine Ahh h (fun _ h=>?_) | refine U2 h (fun _ h=>?_) | refine Acx h (fun _ h=>?_)))
      | ((with_reducible show N9 _ _ _); (first | refine Ahi h (fun _ h=>?_) | refine Ahj h (fun _ h=>?_)))
      | ((with_reducible show P7 _ _ _ _ _); refine Gb h (fun _ h=>?_))
      | ((with_reducible show N8 _ _ _ _); (first | refine Ahk h (fun _ h=>?_) | refine Acy h (fun _ h=>?_)))
      | ((with_reducible show Fi _ _ _); (first | refine Nf ?_ | refine Ng ?_))
      | ((with_reducible show Wi _ _ _); refine Ta h (fun _ h=>?_))
      | ((with_reducible show Wc _ _ _ _); refine S9 h (fun _ h=>?_))
      | ((with_reducible show Wd _ _ _); refine W5 h (fun _ h=>?_))
      | ((with_reducible show Wf _ _ _ _); refine Ag1 h (fun _ h=>?_))
      | ((with_reducible show We _ _ _ _); refine Ag2 h (fun _ h=>?_))
      | ((with_reducible show Wg _ _ _ _); refine Abm h (fun _ _ _ _ h=>?_))
      | ((with_reducible show Wj _ _); refine W6 h (fun h=>?_))
      | ((with_reducible show Wk _ _ _ _ _); refine Agw h (fun _ h=>?_))
      | ((with_reducible show Wl _ _ _ _); refine Agx h (fun _ h=>?_)))
    | ((with_reducible show D2 (Dt _ _ _ _ _ [] _ _ _ _ _)); refine Li ?_)
    | ((with_reducible show D2 (wc _ _ _ _ _ _ _ _ _)); refine nw ?_)
    | with_reducible refine A6 ?_
    | with_reducible refine B9 ?_
    | with_reducible refine Abo ?_
    | with_reducible refine Ll ?_
    | with_reducible refine Oi ?_
    | with_reducible refine Hx ?_
    | with_reducible refine Ag5 ?_
    | with_reducible refine Abq ?_
    | with_reducible refine Abp ?_
    | ((with_reducible refine cnd ?_); first | refine Hr rfl ?_ | refine Aa8 rfl ?_)
    | ((with_reducible show wc _ _ (.cond _ _ _) _ _ _ _ _ _); first | refine Au h (fun _ h=>?_) (fun _ h=>?_) | refine W9 ?_ | refine Xa ?_)
    | ((with_reducible show J8 _ _ _); refine J8.mk (by kernel_rfl) ?_)
    | refine nx ?_
    | refine Li ?_
    | refine Ml ?_
    | refine Mk ?_
    | refine F2 h (fun _ h=>?_) (fun _ h=>?_)
    | exact lpn h
    | exact jnn h
    | replace h:=C3 h
    | replace h:=lpj h
    | refine nw ?_
    | (conv=>whnf
       first
      | ((with_reducible show D2 _); refine nw ?_)
      | ((with_reducible show F9 _ _ _); refine F9.mk _ rfl ?_)
      | ((with_reducible show J4 _ _); refine Nd ?_)
      | ((with_reducible show Hh _ _ _ _ _ _); (first | refine Bt h (fun _ h=>?_) | refine Yg h (fun _ h=>?_)))
      | ((with_reducible show Sy _ _ _); refine B1 h (fun _ _ _ _ h=>?_))
      | ((with_reducible show N7 _ _ _ _ _); (first | refine Ik h (fun _ _ _ _ h=>?_) | refine Jl h (fun _ _ _ _ h=>?_)))
      | ((with_reducible show Jb _ _ _ _); refine Nh ?_)
      | ((with_reducible show P8 _ _ _ _); refine Ahg ?_)
      | ((with_reducible show Kt _ _ _ _ _ _ _); (first | refine Ahh h (fun _ h=>?_) | refine U2 h (fun _ h=>?_) | refine Acx h (fun _ h=>?_)))
      | ((with_reducible show N9 _ _ _); (first | refine Ahi h (fun _ h=>?_) | refine Ahj h (fun _ h=>?_)))
      | ((with_reducible show P7 _ _ _ _ _); refine Gb h (fun _ h=>?_))
      | ((with_reducible show N8 _ _ _ _); (first | refine Ahk h (fun _ h=>?_) | refine Acy h (fun _ h=>?_)))
      | ((with_reducible show Fi _ _ _); (first | refine Nf ?_ | refine Ng ?_))
      | ((with_reducible show Wi _ _ _); refine Ta h (fun _ h=>?_))
      | ((with_reducible show Wc _ _ _ _); refine S9 h (fun _ h=>?_))
      | ((with_reducible show Wd _ _ _); refine W5 h (fun _ h=>?_))
      | ((with_reducible show Wf _ _ _ _); refine Ag1 h (fun _ h=>?_))
      | ((with_reducible show We _ _ _ _); refine Ag2 h (fun _ h=>?_))
      | ((with_reducible show Wg _ _ _ _); refine Abm h (fun _ _ _ _ h=>?_))
      | ((with_reducible show Wj _ _); refine W6 h (fun h=>?_))
      | ((with_reducible show Wk _ _ _ _ _); refine Agw h (fun _ h=>?_))
      | ((with_reducible show Wl _ _ _ _); refine Agx h (fun _ h=>?_)))
    | (have h:=Option.some.inj h; subst h; exact rfl)
    | (cases h; (repeat refine ⟨rfl,?_⟩); exact trivial)
    | (cases h; done)
):P:=h
end Go.Ab
namespace Go.Ab
open Go Go.Proofs
set_option maxRecDepth 10000
set_option linter.unusedVariables false
theorem Aqu {a0 r:List Es} (h:Bl 16 [] a0=some r):Aw Go.Proofs.Tryz.prog 180 [Ax 2 G8 a0] (Ax 2 G8 r):=by
 have h:((Bl 16 [] a0).bind fun o=>some o)=some r:=by rw [h]; rfl
 refine pw {T:=Cf,an:=(fun s=>bif Nat.beq s 5 then .own else .ask),nl:=(fun s=>bif Nat.beq s 2 then [(0,2)] else [])} Tryz.func180 ?_
 refine A6 ?_
 refine B9 ?_
 refine ZO ?_
 refine A6 (A6 ?_)
 refine Abr (fun b:Bool=>b=true->a0 = []) (fun b=>[(4,Ao b)]) (fun _=>[]) (fun _=>rfl) ?_ ?_
 .intro K hK
  refine Aqg 0 ?_
  intro v hv
  obtain ⟨p,c,rfl,hp⟩:=hv 2 (a0.map G8) rfl
  refine B9 ?_
  refine nx ?_
  refine nx ?_
  refine Li ?_
  refine hK p.isNone _ _ _ (fun e=>?_) ⟨rfl,trivial⟩ trivial
  cases p with
  | none=>simpa using hp rfl
  | some _=>cases e
 .rintro b _ hb
  cases b with
  | true=>
   have hb:=hb rfl
   subst hb
   have h:some ([]:List Es)=some r:=by rw [<-h]; rfl
   exact Y
  | false=>
   refine Z ?_
   exact Y
end Go.Ab
namespace Go.Ab
open Go Go.Proofs Go.Shelf
set_option maxRecDepth 100000
set_option linter.unusedVariables false
def Aqv:Ren:={f:=fun x=>match x with | 189=>74 | 125=>135 | 257=>134 | 128=>217 | 129=>218 | 294=>208 | 295=>209 | 296=>210 | 297=>211 | 298=>212 | 299=>213 | 216=>214 | 300=>215 | 301=>216 | 328=>277 | 329=>278 | 330=>279 | 331=>280 | 332=>281 | 215=>238 | 343=>323 | n=>n,t:=fun x=>match x with | 28=>55 | 3=>3 | 46=>188 | 0=>0 | 51=>129 | 53=>128 | 4=>4 | 183=>253 | 182=>252 | 131=>170 | 5=>5 | 9=>9 | 218=>319 | 222=>136 | 228=>360 | 229=>361 | n=>n,g:=fun n=>n}
theorem Aqw:Lays.n189 Go.Proofs.Tryz.prog Aqv:=by
 constructor
 all_goals first | kernel_rfl | (intro w; kernel_rfl) | constructor
 all_goals first | kernel_rfl | (intro w; kernel_rfl)
theorem Bx.up {σ:Ar} {ι:Bf} {H:Hp} {F:Ar} {w w':World} {x:Nat} (h:Bx σ ι H F w x) (hk:∀(b:Nat) (o:Obj),w.heap[b]? = some o->w'.heap[b]? = some o):Bx σ ι H F w' x:=by
 unfold Bx at h ⊢
 cases hx:H x with
 | none=>rw [hx] at h; exact h
 | dead=>trivial
 | cells E cs=>
  rw [hx] at h
  obtain ⟨b,C,h1,h2,h3,g,f⟩:=h
  exact ⟨b,C,h1,h2,h3,hk _ _ g,f⟩
 | rows E sz xs=>
  rw [hx] at h
  obtain ⟨h0,h1,h2⟩:=h
  refine ⟨h0,h1,?_⟩
  rcases h2 with h2 | ⟨b,c,C,q,l,k,j,i⟩
  .exact .inl h2
  .exact .inr ⟨b,c,C,q,l,k,hk _ _ j,i⟩
 | map es=>
  rw [hx] at h
  obtain ⟨b,M,t,h1,h2,h3,g,f⟩:=h
  exact ⟨b,M,t,h1,h2,h3,hk _ _ g,f⟩
theorem St.growG {σ:Ar} {ι:Bf} {H:Hp} {F:Ar} {W w:World} (s:St σ ι H F W w) (k:Nat) (os:Array Obj):St σ ι H F W (Sort.grow (Sort.ahead w k) os):=by
 have hk:∀(b:Nat) (o:Obj),w.heap[b]? = some o->(Sort.grow (Sort.ahead w k) os).heap[b]? = some o:=by
  intro b o h
  have c:=(Array.getElem?_eq_some_iff.1 h).1
  show (w.heap++os)[b]? = _
  rw [Array.getElem?_append_left c]; exact h
 exact ⟨fun b o h=>hk b o (s.sto b o h),fun b o h=>⟨hk b o (s.fra b o h).1,(s.fra b o h).2⟩,fun h=>(s.obj h).up hk,s.inj,s.os,s.tape,s.output,s.glo⟩
theorem Aqx {α:Type} [Inhabited α] (enc:α->Value) (w:World) (b:Nat) (d:Array α) (C:Array Value) (E:TypeId) (h:w.heap[b]? = some (.cells C E (0,0))):Sort.putRow enc w b 0 d=w.setRow b (Sort.putCells enc 0 d C):=by
 have c:(Sort.putRow enc w b 0 d).heap=(w.setRow b (Sort.putCells enc 0 d C)).heap:=by
  apply Array.ext_getElem?
  intro i
  simp only [Sort.putRow,Sort.mapBlock,World.setRow,Array.getElem?_modify]
  split
  .rename_i e; subst e
   rw [h]; simp [Sort.onCells]
  .rfl
 unfold Sort.putRow Sort.mapBlock World.setRow at c ⊢
 simp only at c
 rw [c]
theorem Aqy {b r:List Int} (h:Agp b=some r) (M:b≠[]):Ck Go.Proofs.Tryz.prog 74 [.arr 0 b.length 0 b.length] [.rows 3 1 (List.map (Aa .i64) b)] (.tup []) [.rows 3 1 (List.map (Aa .i64) r)]:=by
 cases h
 .skip
  refine ⟨⟨_,Tryz.func74,by kernel_rfl,by kernel_rfl⟩,fun σ F W w ι vs s J=>?_⟩
  obtain ⟨v,rfl,hv⟩:=Rx J
  have hh:hp [.rows 3 1 (List.map (Aa .i64) b)] 0 = .rows 3 1 (List.map (Aa .i64) b):=rfl
  have l:=hv.arr_inv hh (by simp)
  have hor:=s.obj 0
  unfold Bx at hor
  rw [hh] at hor
  obtain ⟨_,G,hor⟩:=hor
  rw [List.length_map] at G
  rcases hor with ⟨_,E⟩ | ⟨g,q,D,Y,g1,g2,g3,g4,g5,g6⟩
  .exact (M (by simpa using E)).elim
  .rw [List.length_map] at g5
   unfold Fh at l
   rw [Y] at l
   simp only [Nat.zero_mul,Nat.zero_add,Nat.sub_zero] at l
   obtain ⟨ht,B⟩:=l
   subst B
   have k:∀(j:Nat) (x:Int),b[j]? = some x->D[j]? = some (Value.int .i64 x):=by
    intro j x hx
    obtain ⟨Z,q1,q2,q3⟩:=g6
    have A:(List.map (Aa .i64) b)[j]? = some (Aa .i64 x):=by rw [List.getElem?_map,hx]; rfl
    have N:j<(List.map (Aa .i64) b).length:=(List.getElem?_eq_some_iff.1 A).1
    have V:=q3 j 0 N (by omega)
    have U:=(q2 j _ 0 _ A rfl).1
    have:Z j 0=Value.int .i64 x:=by
     generalize Z j 0=z at U
     cases U; rfl
    rw [this] at V
    simpa using V
   have hH:Sort.Holds (Value.int .i64) w g 0 b.toArray:=by
    intro j hj
    have hj':j<b.length:=by simpa using hj
    have hx:b[j]? = some b[j]:=List.getElem?_eq_getElem hj'
    have hD:=k j _ hx
    have e1:b.toArray[j]! = b[j]:=by
     rw [getElem!_pos b.toArray j hj]; simp
    rw [e1]
    refine ⟨?_,?_⟩
    .rw [Nat.zero_add,Ho g3]; exact hD
    .simp [World.frozen?,g3]
   have call:=Any.slices_Sort_int Aqw g 0 q b w hH (Array.getElem?_eq_some_iff.1 g3).1 (by omega)
   refine call.mono ?_
   rintro e w' ⟨rfl,n,os,rfl⟩
   generalize hr:b.mergeSort (fun x y=>decide (x<=y))=r
   have I:r.length=b.length:=by rw [<-hr]; exact List.length_mergeSort b
   have L:(Sort.putCells (Value.int .i64) 0 r.toArray D).size=q*1:=by unfold Sort.putCells; rw [Array.size_mapIdx]; exact g4
   obtain ⟨s',le⟩:=s.setRows 0 3 1 _ (List.map (Aa .i64) r) hh g q Y (by simp [I]) (Sort.putCells (Value.int .i64) 0 r.toArray D) L (by
    refine ⟨fun i _=>match r[i]? with | some z=>.int .i64 z | none=>.bool false,?_,?_,?_⟩
    .intro i x hx
     rw [List.getElem?_map] at hx
     obtain ⟨z,X,rfl⟩:=Option.map_eq_some_iff.1 hx
     rfl
    .intro i x j c hx f
     rw [List.getElem?_map] at hx
     obtain ⟨z,X,rfl⟩:=Option.map_eq_some_iff.1 hx
     have f:([Aa .i64 z]:List O)[j]? = some c:=f
     match j with
     | 0=>cases f; simp only [X]; exact ⟨.val _,rfl⟩
     | j+1=>simp at f
    .intro i j hi hj
     have R:j=0:=by omega
     subst R
     have u:i<r.length:=by simpa using hi
     have S:i<D.size:=by rw [g4]; omega
     simp only [Nat.mul_one,Nat.add_zero,List.getElem?_eq_getElem u]
     unfold Sort.putCells
     rw [Array.getElem?_mapIdx,Array.getElem?_eq_getElem S]
     simp only [Option.map_some,Nat.zero_le,true_and,Nat.zero_add,List.size_toArray,u,if_true,Nat.sub_zero]
     congr 2
     rw [getElem!_pos r.toArray i (by simpa using u)]; simp)
   have eH:Ay (hp [.rows 3 1 (List.map (Aa .i64) b)]) 0 (.rows 3 1 (List.map (Aa .i64) r))=hp [.rows 3 1 (List.map (Aa .i64) r)]:=by
    funext i
    match i with
    | 0=>rfl
    | i+1=>rfl
   rw [eH] at le s'
   have eW:Sort.grow (Sort.putRow (Value.int .i64) (Sort.ahead w n) g 0 r.toArray) os=Sort.grow (Sort.ahead (w.setRow g (Sort.putCells (Value.int .i64) 0 r.toArray D)) n) os:=by
    rw [Aqx (Value.int .i64) (Sort.ahead w n) g r.toArray D 3 g3]
    rfl
   rw [eW]
   exact ⟨_,σ,ι,rfl,le,s'.growG n os,.tup _ _ rfl (fun i c v h1 _=>by cases h1)⟩
end Go.Ab
