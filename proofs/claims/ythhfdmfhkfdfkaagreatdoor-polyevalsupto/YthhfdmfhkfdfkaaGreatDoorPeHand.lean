/- Contracts of strings.Builder and strconv.Itoa. -/
import Derived.Test.YthhfdmfhkfdfkaaGreatDoorPeTy
import Derived.Test.YthhfdmfhkfdfkaaGreatDoorPeHandB
import Derived.Shelf.Strconv.Itoa4
import Derived.KernelRfl
import Derived.Shelf.Sort.Plain
import Derived.Shelf.SlSortCmp.WholeK
import Derived.Shelf.Spec.SlicesGrow
namespace Go.Ab
open Go Go.Proofs Go.Shelf Go.Proofs.Tryz
set_option maxRecDepth 100000
def Akd:Ren:={f:=λx=>match x with | 171=>273 | 243=>308 | 246=>349 | 283=>363 | 284=>364 | 285=>365 | 286=>366 | 129=>174 | 317=>377 | 318=>378 | 319=>379 | 320=>380 | 337=>384 | 338=>385 | 173=>310 | n=>n,t:=λx=>match x with | 3=>3 | 9=>9 | 2=>2 | 4=>4 | 171=>404 | 0=>0 | 53=>124 | 37=>310 | 5=>5 | 173=>406 | 212=>417 | 51=>110 | 20=>20 | 213=>418 | 46=>145 | 232=>422 | 233=>423 | n=>n,g:=λx=>match x with | 17=>0 | 18=>1 | 19=>2 | n=>n}
theorem Ake:LaysM.n171 prog Akd:=by constructor;constructor;all_goals first | kernel_rfl | (intro w; kernel_rfl)
theorem St.grown {σ:A1} {F:A1} {W w:World} (s:St σ ι0 H0 F W w) (k:Nat) (os:Array Obj):St σ ι0 H0 F W (Sort.grow (w.drewN k) os):=by
 have hk:∀(b:Nat) (o:Obj),w.heap[b]? = some o->(Sort.grow (w.drewN k) os).heap[b]? = some o:=by intro b o h;have c:=(Array.getElem?_eq_some_iff.1 h).1;show (w.heap++os)[b]? = _;rw [Array.getElem?_append_left c]; exact h
 exact ⟨λb o h=>hk b o (s.sto b o h),λb o h=>⟨hk b o (s.fra b o h).1,(s.fra b o h).2⟩,λ_=>rfl,(λ_ _ _ f=>by cases f),s.os,s.tape,s.output,s.glo,Nat.le_trans s.drw (Nat.le_add_right _ _)⟩
theorem Akf {σ:A1} {ι:Br} {H:Hp} {F:A1} {W w:World} (s:St σ ι H F W w):Lib.TabIs prog w "internal/strconv.uint64pow10" .u64 Lib.pow10Tab:=by obtain ⟨E,fr,e⟩:=s.glo;have h:=s.sto _ _ e;have g:prog.globalNamed "internal/strconv.uint64pow10" = some 0:=Ake.m17;unfold Lib.TabIs World.var?;rw [g];simp only [Option.bind_some,h]
theorem Tv {σ:A1} {ι:Br} {H:Hp} {x:AV} {vs:Array Value} (h:Kt σ ι H [x] vs):∃v,vs = #[v]/\Conc σ ι H x v:=by
 obtain ⟨h1,h2⟩:=h;have h1:vs.size=1:=h1;refine ⟨vs[0],?_,h2 0 x _ rfl (by simp [h1])⟩;apply Array.ext
 .simp [h1]
 .intro i hi b;have:i=0:=ω;subst this; rfl
theorem Auc {a0:Int} {r:ByteArray} (h:Nw a0=some r):As prog 273 [O .i64 a0] (Du r):=by
 unfold Nw at h;split at h
 .rename_i hc;cases h;refine ⟨⟨_,func273,κ,κ⟩,λσ F W w vs s b=>?_⟩;obtain ⟨v,rfl,hv⟩:=Tv b;have hv:=hv.val_inv;subst hv;have:=Any.strconv_Itoa Ake a0 hc.1 hc.2 w (Akf s);refine this.mono ?_;rintro e w' ⟨rfl,k,os,rfl⟩;exact ⟨_,σ,rfl,A1.le_refl σ,s.grown k os,.of_val _⟩
 .cases h
theorem Aud:LaysM.n173 prog Akd:=by constructor;constructor;all_goals first | kernel_rfl | (intro w; kernel_rfl)
theorem Afg {σ:A1} {ι:Br} {H:Hp} {x y:AV} {vs:Array Value} (h:Kt σ ι H [x,y] vs):∃v u,vs = #[v,u]/\Conc σ ι H x v/\Conc σ ι H y u:=by
 obtain ⟨h1,h2⟩:=h;have h1:vs.size=2:=h1;refine ⟨vs[0],vs[1],?_,h2 0 x _ rfl (by simp [h1]),h2 1 y _ rfl (by simp [h1])⟩;apply Array.ext
 .simp [h1]
 .intro i hi b;rcases (by omega:i=0\/i=1) with h | h
  .subst h; rfl
  .subst h; rfl
theorem Aue {a0 a1:Int} {r:ByteArray} (h:Ads a0 a1=some r):As prog 310 [O .i64 a0,O .i64 a1] (Du r):=by
 unfold Ads at h;cases hb:a1==10 with
 | false=>rw [hb] at h; cases h
 | true=>
  rw [hb] at h;have hb:=eq_of_beq hb;subst hb;have h:Nw a0=some r:=h;unfold Nw at h;split at h
  .rename_i hc;cases h;refine ⟨⟨_,func310,κ,κ⟩,λσ F W w vs s b=>?_⟩;obtain ⟨v,u,rfl,hv,hu⟩:=Afg b;have hv:=hv.val_inv;have hu:=hu.val_inv;subst hv; subst hu;have:=Any.strconv_FormatInt_10 Aud a0 hc.1 hc.2 w (Akf s);refine this.mono ?_;rintro e w' ⟨rfl,k,os,rfl⟩;exact ⟨_,σ,rfl,A1.le_refl σ,s.grown k os,.of_val _⟩
  .cases h
theorem Aan (o:Bh) (os:List Bh):hp (o::os) 0=o:=rfl
theorem Auf (x:AV) (rest:List Bh):Bo prog 292 [.loc 0 0] (.cells 312 [.loc 0 0,x]::rest) (.tup []) (.cells 312 [.loc 0 0,x]::rest):=by
 refine ⟨⟨_,func292,κ,κ⟩,λσ F W w ι vs s f=>?_⟩;obtain ⟨v,rfl,hv⟩:=Tv f;obtain ⟨b,hb,hv⟩:=hv.loc_inv;subst hv;have k:=s.obj 0;unfold Ci at k;rw [Aan] at k;obtain ⟨y,C,q,_,_,h3,h4,u⟩:=k;rw [hb] at q; cases q;have h4:C.size=2:=h4;have g:C[0]? = some C[0]:=by simp [h4]
 have l:=u 0 (.loc 0 0) C[0] rfl g;obtain ⟨b2,h,j⟩:=l.loc_inv;rw [hb] at h; cases h;have cell:w.cell? ⟨b,0,none⟩=some (.pointer (some ⟨b,0,none⟩)):=by rw [Ig h3,g,j]
 refine (Tryz.check_used b w cell).mono ?_;rintro e w' ⟨rfl,rfl⟩;exact ⟨_,σ,ι,rfl,Le.refl _ _ _,s,.tup _ _ rfl (λi c v h1 _=>by cases h1)⟩
theorem Aug (x:AV) (rest:List Bh):Bo prog 292 [.loc 0 0] (.cells 312 [.val (.pointer none),x]::rest) (.tup []) (.cells 312 [.loc 0 0,x]::rest):=by
 refine ⟨⟨_,func292,κ,κ⟩,λσ F W w ι vs s h=>?_⟩;obtain ⟨v,rfl,hv⟩:=Tv h;obtain ⟨b,hb,hv⟩:=hv.loc_inv;subst hv;have l:=s.obj 0;unfold Ci at l;rw [Aan] at l;obtain ⟨B,C,y,_,_,h3,h4,u⟩:=l;rw [hb] at y; cases y;have h4:C.size=2:=h4;have j:C[0]? = some C[0]:=by simp [h4]
 have k:=(u 0 (.val (.pointer none)) C[0] rfl j).val_inv;have cell:w.cell? ⟨b,0,none⟩=some (.pointer none):=by rw [Ig h3,j,k]
 refine (Tryz.check_fresh b w cell (by simp [World.shape?,h3,h4]) (by simp [World.frozen?,h3])).mono ?_;rintro e w' ⟨rfl,rfl⟩;obtain ⟨s',le⟩:=s.setBox 0 312 [.val (.pointer none),x] [.loc 0 0,x] rfl b hb #[.pointer (some ⟨b,0,none⟩),C[1]] rfl (by
  intro i c v h1 h2
  match i with| 0=>simp at h1 h2; subst h1; subst h2; exact .loc 0 0 b hb| 1=>simp at h1 h2; subst h1; subst h2; exact u 1 x _ rfl (by simp [h4])| i+2=>simp at h1)
 have A:A4 (hp (.cells 312 [.val (.pointer none),x]::rest)) 0 (.cells 312 [.loc 0 0,x])=hp (.cells 312 [.loc 0 0,x]::rest):=by funext i;cases i with| zero=>rfl| succ i=>rfl
 have z:w.setCell ⟨b,0,none⟩ (.pointer (some ⟨b,0,none⟩))=w.setRow b #[.pointer (some ⟨b,0,none⟩),C[1]]:=by
  have g:C.setIfInBounds 0 (.pointer (some ⟨b,0,none⟩)) = #[.pointer (some ⟨b,0,none⟩),C[1]]:=by
   apply Array.ext
   .simp [h4]
   .intro i hi q
    match i with| 0=>simp| 1=>rw [Array.getElem_setIfInBounds_ne _ δ]; rfl| i+2=>simp at q; omega
  have f:(w.setCell ⟨b,0,none⟩ (.pointer (some ⟨b,0,none⟩))).heap=(w.setRow b #[.pointer (some ⟨b,0,none⟩),C[1]]).heap:=by
   apply Array.ext_getElem?;intro i;simp only [World.setCell,World.setRow,Array.getElem?_modify];split
   .rename_i e; subst e;rw [h3]; simp [g]
   .rfl
  unfold World.setCell World.setRow at f ⊢;simp only at f;rw [f]
 rw [A] at s' le;rw [z];exact ⟨_,σ,ι,rfl,le,s',.tup _ _ rfl (λi c v h1 _=>by cases h1)⟩
theorem Auh {l:List Int} (h:∀x∈l,0<=x/\x<256) {j:Nat} {x:UInt8} (hx:(E7 l)[j]? = some x):l[j]? = some (x.toNat:Int):=by simp only [E7,List.getElem?_map,Option.map_eq_some_iff] at hx;obtain ⟨y,hy,rfl⟩:=hx;have b:=h y (List.mem_of_getElem? hy);rw [hy];congr 1;have:y.toNat<256:=ω;simp only [UInt8.toNat_ofNat'];omega
theorem St.kill {σ:A1} {ι:Br} {H:Hp} {F:A1} {W w:World} (s:St σ ι H F W w) (h:Nat):St σ ι (A4 H h .dead) F W w/\Le σ ι H σ ι (A4 H h .dead):=by
 have le:Le σ ι H σ ι (A4 H h .dead):=by have:=Le.upd (ι:=ι) (H:=H) (A1.le_refl σ) h (ι h) .dead ⟨λ_ e=>e,(λ_ e=>by cases e),(λ_ k j i e=>by cases e)⟩;rwa [Hi] at this
 obtain ⟨f1,f2⟩:=s.fresh;refine ⟨s.touch h w.heap.size (λ_ _=>rfl) (λx e=>Cz _ _ e) le (λ_ _=>rfl) (λ_ _=>rfl) (λo g=>by rw [f1] at g; cases g) ?_ f2 ?_ ?_ rfl rfl rfl,le⟩
 .intro x _ c f;have:=(s.block c f).1;omega
 .intro b c;rw [Ce] at c; cases c
 .unfold Ci;rw [Ce]; trivial
theorem St.fbox {σ:A1} {ι:Br} {H:Hp} {F:A1} {W w:World} (s0:St σ ι H F W w) {T:TypeId} {p x:AV} {s:ByteArray} {b:Nat} {C:Array Value} (hh:H 0 = .cells T [p,x]) (hb:ι 0 = .box b) (h3:w.heap[b]? = some (.cells C T (0,0))) (hc:∀v,C[1]? = some v->CC σ (.fb s) v):St σ ι (A4 H 0 (.cells T [p,.fb s])) F W w/\Le σ ι H σ ι (A4 H 0 (.cells T [p,.fb s])):=by
 have f:=s0.obj 0;unfold Ci at f;rw [hh] at f;obtain ⟨q,u,j,g1,g2,g3,g4,g5⟩:=f;rw [hb] at j; cases j;rw [h3] at g3; cases g3;have le:Le σ ι H σ ι (A4 H 0 (.cells T [p,.fb s])):=by have:=Le.upd (ι:=ι) (H:=H) (A1.le_refl σ) 0 (ι 0) (.cells T [p,.fb s]) (by rw [hh]; exact ⟨λ_ e=>e,(λ_ e=>by cases e),(λ_ _ _ _ e=>by cases e)⟩);rwa [Hi] at this
 refine ⟨s0.touch 0 b (λ_ _=>rfl) (λx e=>Cz _ _ e) le (λx e=>rfl) (λ_ _=>rfl) (λo e=>by rw [g1] at e; cases e) ?_ g2 ?_ ?_ rfl rfl rfl,le⟩
 .intro x e k g;exact e (s0.inj x 0 b k (by rw [hh]; rfl) g (by rw [hb]; rfl))
 .intro l _ h;exact .inr ⟨by rw [hh]; rfl,h⟩
 .unfold Ci;rw [Ce];refine ⟨b,C,hb,g1,g2,h3,by simpa using g4,λi c v x y=>?_⟩
  match i with| 0=>exact (g5 0 c v x y).mono le| 1=>cases x; exact .cc (hc v y)| i+2=>cases x
theorem Aui {p:AV}:Bo prog 268 [.loc 0 0] [.cells 312 [p,.arr 1 0 0 0],.rows 5 1 []] (Du .empty) [.cells 312 [p,.fb .empty],.dead]:=by
 refine ⟨⟨_,func268,κ,κ⟩,λσ F W w ι vs s y=>?_⟩;obtain ⟨v,rfl,hv⟩:=Tv y;obtain ⟨b,hb,hv⟩:=hv.loc_inv;subst hv;have J:=s.obj 0;unfold Ci at J;rw [Aan] at J;obtain ⟨b',C,V,_,_,h3,h4,h5⟩:=J;rw [hb] at V; cases V;have h4:C.size=2:=h4;have Z:C = #[C[0],C[1]]:=by
  apply Array.ext
  .simp [h4]
  .intro i hi L
   match i with| 0=>rfl| 1=>rfl| i+2=>simp at L; omega
 have M:=h5 1 (.arr 1 0 0 0) C[1] rfl (by simp [h4]);have x:hp [Bh.cells 312 [p,.arr 1 0 0 0],.rows 5 1 []] 1 = .rows 5 1 []:=rfl;have c:=M.arr_inv x ψ;have hor:=s.obj 1;unfold Ci at hor;rw [x] at hor;obtain ⟨_,S,hor⟩:=hor;have eH:A4 (A4 (hp [Bh.cells 312 [p,.arr 1 0 0 0],.rows 5 1 []]) 1 .dead) 0 (.cells 312 [p,.fb .empty])=hp [Bh.cells 312 [p,.fb .empty],.dead]:=by
  funext i
  match i with| 0=>rfl| 1=>rfl| i+2=>rfl
 have go:∀(a q:Option Addr) (cap:Nat) (z:A1) (j:World),C[1] = .slice a 0 cap->j.heap[b]? = w.heap[b]?->(Builtin.unsafeSliceData_ #[310] 341 #[.slice a 0 cap]).run prog w.drew = .ok (.pointer q) j ->
   Le σ ι (hp [Bh.cells 312 [p,.arr 1 0 0 0],.rows 5 1 []]) z ι (hp [Bh.cells 312 [p,.arr 1 0 0 0],.rows 5 1 []])->St z ι (hp [Bh.cells 312 [p,.arr 1 0 0 0],.rows 5 1 []]) F W j -> Calls prog 268 #[.pointer (some ⟨b,0,none⟩)] w λe w'=>∃v A B,e = .returned v/\Le σ ι (hp [Bh.cells 312 [p,.arr 1 0 0 0],.rows 5 1 []]) A B (hp [Bh.cells 312 [p,.fb .empty],.dead])/\St A B (hp [Bh.cells 312 [p,.fb .empty],.dead]) F W w'/\Conc A B (hp [Bh.cells 312 [p,.fb .empty],.dead]) (Du .empty) v:=by intro a q cap z j f u N le E;have h:w.heap[b]? = some (.cells #[C[0],.slice a 0 cap] 312 (0,0)):=(by rw [h3]; congr 1; rw [<-f,<-Z]);refine (Tryz.builder_str0 b cap C[0] a q w j h (u.trans h) N).mono ?_;rintro e w' ⟨rfl,rfl⟩;obtain ⟨X,G⟩:=E.kill 1;obtain ⟨R,l⟩:=X.fbox (b:=b) (C:=#[C[0],.slice a 0 cap]) (s:=.empty) (by rfl) hb ((u.trans h)) (λv hv=>by simp at hv; subst hv; exact .fbn _ _ _ rfl);rw [eH] at R l;exact ⟨_,z,ι,rfl,(le.trans G).trans l,R,.of_val _⟩
 rcases hor with ⟨hi,_⟩ | ⟨g,k,D,Y,g1,g2,g3,g4,g5,g6⟩
 .unfold Ft at c;rw [hi] at c;exact go none none 0 σ w.drew c.1 rfl rfl (Le.refl _ _ _) (s.drew _)
 .unfold Ft at c;rw [Y] at c;simp only [Nat.zero_mul,Nat.zero_add,Nat.sub_zero] at c;obtain ⟨_,f⟩:=c;by_cases ht:k=0
  .subst ht;obtain ⟨E,I⟩:=(s.drew (w.drawn+1)).newFrozen (.view ⟨g,0,none⟩ 5);have U:=(Array.getElem?_eq_some_iff.1 h3).1;refine go _ _ 0 _ (w.drew.alloc (.view ⟨g,0,none⟩ 5)) f ?_ (Lib.run_unsafeSliceData_zero _ _ _ 5 Go.Proofs.Tryz.underlying341 _ _ (5,D.size) (by have:w.drew.heap[g]? = some (.cells D 5 (0,0)):=g3;simp [World.shape?,this])) I E;show (w.heap.push _)[b]? = _;rw [Array.getElem?_push,if_neg ω]
  .exact go _ _ k σ w.drew f rfl (Lib.run_unsafeSliceData_row _ _ _ _ _ _ ht) (Le.refl _ _ _) (s.drew _)
theorem Akg {p:AV} {l:List Int} {r:ByteArray} (h:U1 l=some r):Bo prog 268 [.loc 0 0] [.cells 312 [p,.arr 1 l.length 0 l.length],.rows 5 1 (List.map (O .u8) l)] (Du r) [.cells 312 [p,.fb r],.dead]:=by
 unfold U1 at h;split at h
 .rename_i a7;cases h;by_cases u:l = []
  .subst u; exact Aui
  refine ⟨⟨_,func268,κ,κ⟩,λσ F W w ι vs s R=>?_⟩;obtain ⟨v,rfl,hv⟩:=Tv R;obtain ⟨b,hb,hv⟩:=hv.loc_inv;subst hv;have A:=s.obj 0;unfold Ci at A;rw [Aan] at A;obtain ⟨b',C,e1,_,_,h3,h4,h5⟩:=A;rw [hb] at e1; cases e1;have h4:C.size=2:=h4;have hC:C = #[C[0],C[1]]:=by
   apply Array.ext
   .simp [h4]
   .intro i hi a1
    match i with| 0=>rfl| 1=>rfl| i+2=>simp at a1; omega
  have a6:=h5 1 (.arr 1 l.length 0 l.length) C[1] rfl (by simp [h4]);have M:hp [Bh.cells 312 [p,.arr 1 l.length 0 l.length],.rows 5 1 (List.map (O .u8) l)] 1 = .rows 5 1 (List.map (O .u8) l):=rfl;have y:=a6.arr_inv M ψ;have hor:=s.obj 1;unfold Ci at hor;rw [M] at hor;obtain ⟨_,L,hor⟩:=hor;rw [List.length_map] at L;rcases hor with ⟨_,I⟩ | ⟨g,q,D,hg,g1,g2,g3,g4,g5,g6⟩
  .exact (u (by simpa using I)).elim
  .rw [List.length_map] at g5;unfold Ft at y;rw [hg] at y;simp only [Nat.zero_mul,Nat.zero_add,Nat.sub_zero] at y;obtain ⟨ht,G⟩:=y;have c:(E7 l).length=l.length:=(by simp [E7]);have f:∀(j:Nat) (x:UInt8),(E7 l)[j]? = some x->D[j]? = some (Value.int .u8 x.toNat):=(by intro j x hx;have hj:=Auh a7 hx;obtain ⟨gg,q1,q2,q3⟩:=g6;have E:(List.map (O .u8) l)[j]? = some (O .u8 x.toNat):=(by rw [List.getElem?_map,hj]; rfl);have Y:j<(List.map (O .u8) l).length:=(List.getElem?_eq_some_iff.1 E).1;have q4:=q3 j 0 Y ω;have q5:=(q2 j _ 0 _ E rfl).1;have:gg j 0=Value.int .u8 x.toNat:=(by generalize gg j 0=z at q5;cases q5; rfl);rw [this] at q4;simpa using q4);have S:w.heap[b]? = some (.cells #[C[0],.slice (some ⟨g,0,none⟩) (E7 l).length q] 312 (0,0)):=(by rw [h3]; congr 1; rw [c];have:C[1] = .slice (some ⟨g,0,none⟩) l.length q:=G;rw [<-this,<-hC]);have U:l.length<=D.size:=(by rw [g4]; omega);have call:=Tryz.builder_str b g q C[0] D (E7 l) w (by intro e; apply u; rw [<-List.length_eq_zero_iff,<-c,e]; rfl) S g3 (by rw [c]; exact g5) (by rw [c]; exact U) (by rw [c]; omega) f;refine call.mono ?_;rintro e w' ⟨rfl,rfl⟩;have J:(E7 l).length≠0:=(by rw [c]; simpa using u);have Z:σ.le (A4 σ g (some (.cells D 5 (0,(E7 l).length)))):=(by intro b' o' hb';rw [Cz _ _ (by intro e; subst e; rw [g1] at hb'; cases hb')]; exact hb');have X:(w.drew.freeze ⟨g,0,none⟩ (E7 l).length).heap[g]? = some (.cells D 5 (0,(E7 l).length)):=(by unfold World.freeze;rw [if_neg J];simp only [Array.getElem?_modify,if_true];have:w.drew.heap[g]? = some (.cells D 5 (0,0)):=g3;rw [this];simp);have N:∀b,b≠g->(w.drew.freeze ⟨g,0,none⟩ (E7 l).length).heap[b]? = w.heap[b]?:=by
    intro b hb;unfold World.freeze;split
    .rfl
    .simp only [Array.getElem?_modify];rw [if_neg (Ne.symm hb)]; rfl
   have le:Le σ ι (hp [Bh.cells 312 [p,.arr 1 l.length 0 l.length],.rows 5 1 (List.map (O .u8) l)]) (A4 σ g (some (.cells D 5 (0,(E7 l).length)))) ι (A4 (hp [Bh.cells 312 [p,.arr 1 l.length 0 l.length],.rows 5 1 (List.map (O .u8) l)]) 1 .dead):=(by have:=Le.upd (ι:=ι) (H:=hp [Bh.cells 312 [p,.arr 1 l.length 0 l.length],.rows 5 1 (List.map (O .u8) l)]) Z 1 (ι 1) .dead ⟨λ_ e=>e,(λ_ e=>by cases e),(λ_ E1 ac ab e=>by cases e)⟩;rwa [Hi] at this);have eH:A4 (A4 (hp [Bh.cells 312 [p,.arr 1 l.length 0 l.length],.rows 5 1 (List.map (O .u8) l)]) 1 .dead) 0 (.cells 312 [p,.fb ⟨(E7 l).toArray⟩])=hp [Bh.cells 312 [p,.fb ⟨(E7 l).toArray⟩],.dead]:=by
    funext i
    match i with| 0=>rfl| 1=>rfl| i+2=>rfl
   have aa:b≠g:=(by intro e;have:=s.inj 0 1 g rfl rfl (by rw [hb,e]; rfl) (by rw [hg]; rfl);cases this);have s2:St (A4 σ g (some (.cells D 5 (0,(E7 l).length)))) ι (A4 (hp [Bh.cells 312 [p,.arr 1 l.length 0 l.length],.rows 5 1 (List.map (O .u8) l)]) 1 .dead) F W (w.drew.freeze ⟨g,0,none⟩ (E7 l).length):=by
    refine s.touch (hdrw:=by unfold World.freeze; split <;> exact Nat.le_succ _) 1 g (λ_ _=>rfl) (λx e=>Cz _ _ e) le N (λx e=>Cz _ _ e) (λo A=>by rw [Ce] at A; cases A; exact X) ?_ g2 ?_ ?_ ?_ ?_ ?_
    .intro x hx V a8;exact hx (s.inj x 1 g V rfl a8 (by rw [hg]; rfl))
    .intro b0 V;rw [Ce] at V; cases V
    .unfold Ci;rw [Ce]; trivial
    .unfold World.freeze; split <;> rfl
    .unfold World.freeze; split <;> rfl
    .unfold World.freeze; split <;> rfl
   obtain ⟨s3,B⟩:=s2.fbox (b:=b) (C:=#[C[0],.slice (some ⟨g,0,none⟩) (E7 l).length q]) (s:=⟨(E7 l).toArray⟩) (by rfl) hb ((N b aa).trans S) (λv hv=>by simp only [List.getElem?_toArray,List.getElem?_cons_succ,List.getElem?_cons_zero,Option.some.injEq] at hv;subst hv;have k:(ByteArray.mk (E7 l).toArray).size=(E7 l).length:=(by simp [ByteArray.size]);rw [<-k];refine .fb _ g q D (by rw [Ce,k]) (by rw [k]; exact J) (by rw [k,c]; omega) (by rw [k,c]; exact U) (by rw [k,c]; omega) (λj x hx=>f j x (by simpa using hx)));rw [eH] at s3 B;exact ⟨_,_,ι,rfl,le.trans B,s3,.of_val _⟩
 .cases h
end Go.Ab
namespace Go.Ab
open Go Go.Proofs Go.Proofs.Tryz
set_option linter.unusedVariables false
class OK {α:Type} (o:Option α) (G:outParam (α->Prop)):Prop where
 ok:∀{r:α},o=some r->G r
theorem Db {α:Type} {G:α->Prop}:OK (none:Option α) G:=⟨λh=>by cases h⟩
section
variable {P:Program} {C:Cfg} {Qn:Nat->Bn->Hp->Prop} {Qe:Nat->Nat->Bn->Hp->Prop} {Qr:Nat->Bn->Hp->Prop} {n:Nat} {e:Bn} {H:Hp} {β:Type} {r:β}
variable {T:Cl} {an:Nat->Ann} {nl:Nat->List (Nat×Nat)} {ops:Array Oper} {o:Oper} {os:List Oper} {acc:Hm} {K:Nat->Bn->Hp->Hm->Prop}
theorem E3 {p:Nat×Bool} {s:Nat} {b:Bool} {m m':Option β} (h:(bif b then m else m')=some r) (h1:b=true->m=some r->Ep (Eg P T an nl ops (o::os) n (A4 e s (.val (.bool true))) H acc K)) (h2:b=false->m'=some r->Ep (Eg P T an nl ops (o::os) n (A4 e s (.val (.bool false))) H acc K)) (hg:o.guard=some p:=by exact rfl) (hs:(ops[p.1]?).bind (·.dst)=some s:=by exact rfl) (hb:e s = .val (.bool b):=by exact rfl):Ep (Eg P T an nl ops (o::os) n e H acc K):=Atq h h1 h2 hb
theorem nw {c:Code} (k:wc P C c Qn Qe Qr n e H):Ep (wc P C c Qn Qe Qr n e H):=.mk k
theorem B6 {S E:Type} {o:S⊕E} {J:E->Option β} {x:E} (h:some (Sum.inr x)=some o) (hx:∀x,Sum.inr x=o->J x=some r:=by assumption):J x=some r:=hx x (Option.some.inj h)
theorem lpj {S:Type} {o:S} {J:S->Option β} {x:S} (h:some x=some o) (hx:∀y,y=o->J y=some r:=by assumption):J x=some r:=hx x (Option.some.inj h)
theorem lpn {S E:Type} {o:S⊕E} {s':S} {K:Nat->Bn->Hp->Prop} {iv:S->List (Nat×AV)} {hv:S->List (Nat×Bh)} {inv:S->Prop} {n0:Nat} {H0:Hp} (h:some (Sum.inl s')=some o) (hn:∀s' n' e' H',Sum.inl s'=o->Gj e' (iv s')->Gk H' (Cg H0 (hv s')) n0 n0->inv s'->K n' e' H':=by assumption) (hs:Gj e (iv s'):=by (repeat refine ⟨rfl,?_⟩); exact trivial) (hh:Gk H (Cg H0 (hv s')) n0 n0:=by (repeat refine ⟨⟨rfl,rfl⟩,?_⟩); exact trivial) (hi:inv s':=by first | trivial | exact rfl | ((repeat refine Gu ?_ _ _); first | exact rfl | assumption)):K n e H:=hn s' n e H (Option.some.inj h) hs hh hi
theorem jnn {S E:Type} {o x:E} {s:S} {J:S->Prop} {K:Nat->Bn->Hp->Prop} {iv:S->List (Nat×AV)} {hv:S->List (Nat×Bh)} {n0:Nat} {H0:Hp} (h:some x=some o) (hn:∀s n' e' H',J s->Gj e' (iv s)->Gk H' (Cg H0 (hv s)) n0 n0->K n' e' H':=by assumption) (hJ:J s:=by exact Option.some.inj h) (hs:Gj e (iv s):=by (repeat refine ⟨rfl,?_⟩); exact trivial) (hh:Gk H (Cg H0 (hv s)) n0 n0:=by (repeat refine ⟨⟨rfl,rfl⟩,?_⟩); exact trivial):K n e H:=hn s n e H hJ hs hh
theorem A9 {α:Type} {o:Option α} {m:α->Option β} {f:FuncId} {args:List AV} {G:α->Prop} {ra:α->AV} {K:Eff->Nat->Prop} (h:o.bind m=some r) [i:OK o G] (k:∀v,m v=some r->K ⟨ra v,[],[]⟩ n) (hG:∀v,G v->As P f args (ra v):=by exact λ_ h=>h) (hf:args.all AV.free=true:=by exact rfl):Gc P n H f args K := C4 h λv hv h=>Gc.mk _ (hG v (i.ok hv)) hf (k v h)
theorem Akh {α:Type} {o:Option α} {m:α->Option β} {f:FuncId} {args args':List AV} {G:α->Prop} {ra:α->AV} {K:Eff->Nat->Prop} (h:o.bind m=some r) [i:OK o G] (k:∀v,m v=some r->K ⟨ra v,[],[]⟩ n) (hG:∀v,G v->As P f args' (ra v):=by exact λ_ h=>h) (hs:Nr args args':=by (repeat first | refine ⟨Sub.refl _,?_⟩ | refine ⟨Sub.nil _,?_⟩); exact trivial) (hf:args.all AV.free=true:=by exact rfl):Gc P n H f args K := C4 h λv hv h=>Gc.mk _ (As.sub (hG v (i.ok hv)) hs (Sub.refl _)) hf (k v h)
theorem A7 {α:Type} {o:Option α} {m:α->Option β} {f:FuncId} {args largs:List AV} {G:α->Prop} {ra:α->AV} {hs:List Bh} {hs':α->List Bh} {K:Eff->Nat->Prop} (l:List Nat) (h:o.bind m=some r) [i:OK o G] (k:∀v,m v=some r->K ⟨ren (Ds n l) (ra v),wrs (Ds n l) 0 hs++B5 (Ds n l) l.length ((hs' v).length-l.length),wrs (Ds n l) 0 (hs' v)⟩ (n+((hs' v).length-l.length))) (hG:∀v,G v->Bo P f largs hs (ra v) (hs' v):=by exact λ_ h=>h) (ha:largs.map (ren (Ds n l))=args:=by exact rfl) (ok:∀v,R6 n l largs hs (ra v) (hs' v)=true:=by exact λ_=>rfl) (hh:Pt H (wrs (Ds n l) 0 hs):=by (repeat refine ⟨rfl,?_⟩); exact trivial):Gc P n H f args K := C4 h λv hv h=>Gc.act l largs hs (ra v) (hs' v) (hG v (i.ok hv)) ha (ok v) hh (k v h)
theorem Bf {α:Type} {l:List α} {f:α->AV} {ys:List AV} {i:Int} {m:α->Option β} {K:Nat->AV->Prop} (h:(Ae l i).bind m=some r) (k:∀(n:Nat) (x:α),i=n->l[n]? = some x->m x=some r->K n (f x)) (he:ys=l.map f:=by first | exact rfl | exact Jc _ | exact Ka _ | exact Ik _):Us ys i K:=Aja he h k
theorem G2 {α:Type} {l:List α} {f:α->AV} {ys:List AV} {i:Int} {m:α->Option β} {K:Nat->Prop} {len kk:Nat} (h:(Ae l i).bind m=some r) (k:∀(n:Nat) (x:α),i=n->l[n]? = some x->m x=some r->K n) (he:ys=l.map f:=by first | exact rfl | exact Jc _ | exact Ka _ | exact Ik _) (hl:len=l.length:=by first | exact rfl | assumption | exact Ii (by assumption) | ((repeat refine Gu ?_ _ _); first | exact rfl | assumption)) (hk:kk=l.length:=by first | exact rfl | assumption | exact Ii (by assumption) | ((repeat refine Gu ?_ _ _); first | exact rfl | assumption)):Pu len kk ys i K:=Atr he hl hk h k
theorem Iy {α:Type} {l:List α} {f:α->AV} {ys:List AV} {i:Int} {m:α->Option β} {K:Nat->Prop} {off len kk:Nat} (h:(Fb l off len i).bind m=some r) (k:∀(n:Nat) (x:α),i=n->l[off+n]? = some x->m x=some r->K n) (he:ys=l.map f:=by first | exact rfl | exact Jc _ | exact Ka _ | exact Ik _) (hk:kk=l.length:=by first | exact rfl | assumption | exact Ii (by assumption) | ((repeat refine Gu ?_ _ _); first | exact rfl | assumption)):Pu len kk ys i K:=Ats he hk h k
theorem Ot {α:Type} {l:List α} {f:α->AV} {ys:List AV} {K:Int->Prop} (k:K (l.length:Int)) (he:ys=l.map f:=by first | exact rfl | exact Jc _ | exact Ka _ | exact Ik _):Kv ys K:=Ajm he k
theorem Ou {α:Type} {l:List α} {f:α->AV} {ys:List AV} {kk:Nat} {K:Prop} (k:K) (he:ys=l.map f:=by first | exact rfl | exact Jc _ | exact Ka _ | exact Ik _) (hk:kk=l.length:=by first | exact rfl | assumption | exact Ii (by assumption) | ((repeat refine Gu ?_ _ _); first | exact rfl | assumption)):F2 kk ys K:=At0 he hk k
theorem Ov {K:Prop} (k:K):F2 0 [] K:=.mk rfl k
theorem Ow {α:Type} {l:List α} {f:α->AV} {ys:List AV} {n i kk:Nat} {x:α} {K:AV->Prop} (k:K (f x)) (he:ys=l.map f:=by first | exact rfl | exact Jc _ | exact Ka _ | exact Ik _) (hk:kk=l.length:=by first | exact rfl | assumption | exact Ii (by assumption) | ((repeat refine Gu ?_ _ _); first | exact rfl | assumption)) (hi:i=n/\l[n]? = some x:=by first | exact ⟨Nat.zero_add _,by assumption⟩ | exact ⟨rfl,by assumption⟩):J1 kk i ys K:=Atu he hk hi.1 hi.2 k
theorem Aki {α:Type} {l:List α} {f:α->AV} {ys:List AV} {n i:Nat} {j:Int} {x:α} {p:AV} {K:List AV->Prop} (k:K ((Cf l j x).map f)) (he:ys=l.map f:=by first | exact rfl | exact Jc _ | exact Ka _ | exact Ik _) (hp:p=f x:=by exact rfl) (hi:i=n/\j=(n:Int):=by first | exact ⟨Nat.zero_add _,by assumption⟩ | exact ⟨rfl,by assumption⟩ | exact ⟨rfl,Zd _ (by assumption)⟩):R8 ys i p K:=I5 he hp hi.1 hi.2 k
theorem L9 {α:Type} {l ys:List α} {f:α->AV} {xs zs:List AV} {b kk len:Nat} {m:List α->Option β} {K:List AV->Nat->Prop} {KP:List AV->Nat->Nat->Prop} (h:(Bx b l ys).bind m=some r) (k:∀o:List α,m o=some r->K (o.map f) o.length) (he:xs=l.map f/\zs=ys.map f:=by first | exact ⟨rfl,rfl⟩ | (refine ⟨?_,?_⟩; rotate_left; exact rfl; exact rfl)) (hk:kk=l.length:=by first | exact rfl | assumption | exact Ii (by assumption) | ((repeat refine Gu ?_ _ _); first | exact rfl | assumption)) (hl:len=l.length:=by first | exact rfl | assumption | exact Ii (by assumption) | ((repeat refine Gu ?_ _ _); first | exact rfl | assumption)):Ku xs zs kk len b K KP:=Adv he.1 he.2 hk hl h k
theorem Akj {l:List Int} {s:ByteArray} {xs:List AV} {b kk len:Nat} {m:List Int->Option β} {K:List AV->Nat->Prop} {KP:List AV->Nat->Nat->Prop} (h:(Bx b l (Mr s)).bind m=some r) (k:∀o:List Int,m o=some r->K (o.map λn=>.val (.int .u8 n)) o.length) (he:xs=l.map λn=>.val (.int .u8 n):=by exact rfl) (hk:kk=l.length:=by first | exact rfl | assumption | exact Ii (by assumption) | ((repeat refine Gu ?_ _ _); first | exact rfl | assumption)) (hl:len=l.length:=by first | exact rfl | assumption | exact Ii (by assumption) | ((repeat refine Gu ?_ _ _); first | exact rfl | assumption)):Ku xs (H5 s) kk len b K KP:=Atx he hk hl h k
class GL {α:Type} (g:List α->List AV) (f:outParam (α->AV)):Prop where
 eq:∀l,g l=l.map f
instance:GL Bd Cw:=⟨Jc⟩
instance:GL Ha Fc:=⟨Ka⟩
instance:GL D1 Dx:=⟨Ik⟩
theorem Aao {α:Type} {g:List α->List AV} {f:α->AV} [i:GL g f] {l ys:List α} {zs:List AV} {b kk len:Nat} {m:List α->Option β} {K:List AV->Nat->Prop} {KP:List AV->Nat->Nat->Prop} (h:(Bx b l ys).bind m=some r) (k:∀o:List α,m o=some r->K (g o) o.length) (hz:zs=ys.map f:=by first | exact rfl | exact GL.eq _) (hk:kk=l.length:=by first | exact rfl | assumption | exact Ii (by assumption) | ((repeat refine Gu ?_ _ _); first | exact rfl | assumption)) (hl:len=l.length:=by first | exact rfl | assumption | exact Ii (by assumption) | ((repeat refine Gu ?_ _ _); first | exact rfl | assumption)):Ku (g l) zs kk len b K KP:=Aty i.eq (i.eq l) hz hk hl h k
theorem Akk {α:Type} {ys:List α} {f:α->AV} {zs:List AV} {b:Nat} {m:List α->Option β} {K:List AV->Nat->Prop} (h:(Bx b [] ys).bind m=some r) (k:∀o:List α,m o=some r->K (o.map f) o.length) (hz:zs=ys.map f:=by exact rfl):Pw zs b K:=Ajk hz h k
theorem Akl {α:Type} {g:List α->List AV} {f:α->AV} [i:GL g f] {ys:List α} {zs:List AV} {b:Nat} {m:List α->Option β} {K:List AV->Nat->Prop} (h:(Bx b [] ys).bind m=some r) (k:∀o:List α,m o=some r->K (g o) o.length) (hz:zs=g ys:=by exact rfl):Pw zs b K:=Ajl i.eq (hz.trans (i.eq ys)) h k
theorem G3 {α:Type} {z:α} {f:α->AV} {za:AV} {len cap:Int} {b:Nat} {m:List α->Option β} {K:Nat->List AV->Prop} (h:(Ew b len cap z).bind m=some r) (k:∀o:List α,m o=some r->K o.length (o.map f)) (hz:za=f z:=by first | exact (rfl:_=O _ _) | exact (rfl:_=Ak _) | exact rfl):R7 len cap b za K:=Atz hz h k
theorem Rb {α:Type} {l:List α} {f:α->AV} {ys:List AV} {lo hi:Int} {m:List α->Option β} {K:List AV->Prop} (h:(G1 l lo hi).bind m=some r) (k:∀l':List α,m l'=some r->K (l'.map f)) (he:ys=l.map f:=by first | exact rfl | exact Jc _ | exact Ka _ | exact Ik _):Pv ys lo hi K:=Ajj he h k
theorem Akm {α:Type} {l:List α} {f:α->AV} {ys:List AV} {lo:Int} {m:List α->Option β} {K:List AV->Prop} (h:(G1 l lo l.length).bind m=some r) (k:∀l':List α,m l'=some r->K (l'.map f)) (he:ys=l.map f:=by first | exact rfl | exact Jc _ | exact Ka _ | exact Ik _):Pv ys lo ys.length K:=Atw he h k
theorem D7 {S E:Type} {step:S->Option (S⊕E)} {s0:S} {J:E->Option β} {b:Code} (h:(Al step s0).bind J=some r) (iv:S->List (Nat×AV)) (hv:S->List (Nat×Bh)) (inv:S->Prop) (body:∀(s:S) (u:Nat->Value) (K:Nat->Bn->Hp->Prop) (o:S⊕E),step s=some o->(∀x,.inr x=o->J x=some r)->(∀s' n' e' H',.inl s'=o->Gj e' (iv s')->Gk H' (Cg H (hv s')) n n->inv s'->K n' e' H')->inv s -> wc P C b K Qe Qr n (I3 (Ev b) e u (iv s)) (Cg H (hv s))) (hb:∀s,Jo n (iv s) (hv s)=true:=by exact λ_=>rfl) (hs:Gj e (iv s0):=by (repeat refine ⟨rfl,?_⟩); exact trivial) (hh:Gk H (Cg H (hv s0)) n n:=by (repeat refine ⟨⟨rfl,rfl⟩,?_⟩); exact trivial) (h0:inv s0:=by first | exact rfl | assumption | exact Ii (by assumption) | ((repeat refine Gu ?_ _ _); first | exact rfl | assumption)):wc P C (.loop b) Qn Qe Qr n e H:=Aju h iv hv inv hb hs hh h0 body
theorem Ay {S E:Type} {step:S->Option (S⊕E)} {s0:S} {J:E->Option β} {b:Code} (h:(Al step s0).bind J=some r) (iv:S->List (Nat×AV)) (hv:S->List (Nat×Bh)) (body:∀(s:S) (u:Nat->Value) (K:Nat->Bn->Hp->Prop) (o:S⊕E),step s=some o->(∀x,.inr x=o->J x=some r)->(∀s' n' e' H',.inl s'=o->Gj e' (iv s')->Gk H' (Cg H (hv s')) n n->True->K n' e' H') -> wc P C b K Qe Qr n (I3 (Ev b) e u (iv s)) (Cg H (hv s))) (hb:∀s,Jo n (iv s) (hv s)=true:=by exact λ_=>rfl) (hs:Gj e (iv s0):=by (repeat refine ⟨rfl,?_⟩); exact trivial) (hh:Gk H (Cg H (hv s0)) n n:=by (repeat refine ⟨⟨rfl,rfl⟩,?_⟩); exact trivial):wc P C (.loop b) Qn Qe Qr n e H:=Aju h iv hv (λ_=>True) hb hs hh trivial λs u K o h1 h2 h3 _=>body s u K o h1 h2 h3
theorem Aap {S S':Type} {c:Code} {o:Option S'} {m:S'->Option β} (inj:S->S') (h:o.bind m=some r) (iv:S->List (Nat×AV)) (hv:S->List (Nat×Bh)) (k1:∀x,o=some x->∀(K:Nat->Bn->Hp->Prop),(∀s n' e' H',inj s=x->Gj e' (iv s)->Gk H' (Cg H (hv s)) n n->K n' e' H')->(∀y,y=x->m y=some r)->wc P C c K Qe Qr n e H) (k2:∀(s:S) (u:Nat->Value),m (inj s)=some r->Qn n (I3 (Ev c) e u (iv s)) (Cg H (hv s))) (hb:∀s,Jo n (iv s) (hv s)=true:=by exact λ_=>rfl):wc P C c Qn Qe Qr n e H := Ze h λx hx hj=>P7 (λs=>inj s=x) iv hv hb (λK hK=>k1 x hx K hK hj) λs u hs=>k2 s u (hj _ hs)
theorem Bv {S:Type} {c:Code} {o:Option S} {m:S->Option β} (h:o.bind m=some r) (iv:S->List (Nat×AV)) (hv:S->List (Nat×Bh)) (k1:∀x,o=some x->∀(K:Nat->Bn->Hp->Prop),(∀s n' e' H',s=x->Gj e' (iv s)->Gk H' (Cg H (hv s)) n n->K n' e' H')->(∀y,y=x->m y=some r)->wc P C c K Qe Qr n e H) (k2:∀(s:S) (u:Nat->Value),m s=some r->Qn n (I3 (Ev c) e u (iv s)) (Cg H (hv s))) (hb:∀s,Jo n (iv s) (hv s)=true:=by exact λ_=>rfl):wc P C c Qn Qe Qr n e H:=Aap (λs=>s) h iv hv k1 k2 hb
abbrev C0:Cfg:={T:=B3,an:=λ_=>.ask}
theorem pw {f:FuncId} {fn:Func} {c:Code} {args:List AV} {r:AV} (C:Cfg) (hf:prog.funcs[f]? = some fn) (hv:wc prog C c (λ_ e H=>Pz C.T fn.results.toList (· = r) e H) (λ_ _ _ _=>False) (λ_ e H=>Pz C.T fn.results.toList (· = r) e H) 0 (Sf args) H0) (hT:C.T=B3:=by exact rfl) (hb:fn.body=some c:=by exact rfl) (hname:(fn.name == "runtime.NumGoroutine")=false:=by kernel_rfl) (hok:Sg fn c args.length=true:=by kernel_rfl) (hfree:r.free=true:=by exact rfl):As prog f args r:=At1 (by rw [hT]; exact Ajy) Uw hf hb hname hok hfree hv
theorem aw {f:FuncId} {fn:Func} {c:Code} {args:List AV} {r:AV} {hs hs':List Bh} (C:Cfg) (fz:Bool) (hf:prog.funcs[f]? = some fn) (hv:wc prog C c (λ_ e H=>P3 C.T fz fn.results.toList r hs' e H) (λ_ _ _ _=>False) (λ_ e H=>P3 C.T fz fn.results.toList r hs' e H) hs.length (Sf args) (hp hs)) (hT:C.T=B3:=by exact rfl) (hb:fn.body=some c:=by exact rfl) (hname:(fn.name == "runtime.NumGoroutine")=false:=by kernel_rfl) (hok:Sg fn c args.length=true:=by kernel_rfl) (hok':Adn hs r hs'=true:=by exact rfl):Bo prog f args hs r hs':=At2 fz (by rw [hT]; exact Ajy) Uw hf hb hname hok hok' hv
end
theorem opk {P:Program} {T:Cl} {an:Nat->Ann} {nl:Nat->List (Nat×Nat)} {o:Oper} {n:Nat} {e:Bn} {H:Hp} {acc:Hm} {K:Nat->Bn->Hp->Hm->Prop} (k:opK P T an nl o n e H acc K):opK P T an nl o n e H acc K:=k
theorem cnd {t:Bool} {A B:Prop} (k:bif t then A else B):bif t then A else B:=k
structure Hd (Q:Prop):Prop where
 get:Q
theorem Z {P Q:Prop} (k:Q) (h:Hd Q->P:=by
  intro q
  repeat first
    | ((with_reducible show Ep (Eg _ _ _ _ _ (_::_) _ _ _ _ _)); (first | refine nx ?_ | refine Nt ?_ | refine Ns ?_))
    | ((with_reducible refine opk ?_); conv=>whnf
       first
      | ((with_reducible show Ep _); refine nw ?_)
      | ((with_reducible show G0 _ _ _); refine G0.mk _ rfl ?_)
      | ((with_reducible show Kv _ _); refine Ot ?_)
      | ((with_reducible show J1 _ _ _ _); refine Ow ?_)
      | ((with_reducible show F2 _ _ _); (first | refine Ou ?_ | refine Ov ?_)))
    | ((with_reducible show Ep (Eg _ _ _ _ _ [] _ _ _ _ _)); refine K0 ?_)
    | ((with_reducible show Ep (wc _ _ _ _ _ _ _ _ _)); refine nw ?_)
    | with_reducible refine Ax ?_
    | with_reducible refine B2 ?_
    | with_reducible refine Adz ?_
    | with_reducible refine J6 ?_
    | with_reducible refine I6 ?_
    | with_reducible refine Fo ?_
    | with_reducible refine Ajr ?_
    | with_reducible refine Ad1 ?_
    | with_reducible refine Ad0 ?_
    | ((with_reducible refine cnd ?_); first | refine Fm rfl ?_ | refine Adi rfl ?_)
    | ((with_reducible show Kz _ _ _); refine Kz.mk κ ?_)
    | ((with_reducible show wc _ _ (.cond _ _ _) _ _ _ _ _ _); first | refine Zi ?_ | refine Ny ?_)
    | refine nw ?_
    | refine nx ?_
    | refine K0 ?_
    | refine Nt ?_
    | refine Ns ?_
    | (conv=>whnf
       first
      | ((with_reducible show Ep _); refine nw ?_)
      | ((with_reducible show G0 _ _ _); refine G0.mk _ rfl ?_)
      | ((with_reducible show Kv _ _); refine Ot ?_)
      | ((with_reducible show J1 _ _ _ _); refine Ow ?_)
      | ((with_reducible show F2 _ _ _); (first | refine Ou ?_ | refine Ov ?_)))
  exact q.get):P:=h ⟨k⟩
theorem ZS {P Q:Prop} (k:Q) (h:Hd Q->P:=by
  intro q
  repeat first
    | ((with_reducible show Ep (Eg _ _ _ _ _ (_::_) _ _ _ _ _)); (first | refine nx ?_ | refine Nt ?_ | refine Ns ?_))
    | ((with_reducible refine opk ?_); conv=>whnf
       first
      | ((with_reducible show Ep _); refine nw ?_)
      | ((with_reducible show G0 _ _ _); refine G0.mk _ rfl ?_)
      | ((with_reducible show Kv _ _); refine Ot ?_)
      | ((with_reducible show J1 _ _ _ _); refine Ow ?_)
      | ((with_reducible show F2 _ _ _); (first | refine Ou ?_ | refine Ov ?_)))
    | ((with_reducible show Ep (Eg _ _ _ _ _ [] _ _ _ _ _)); refine K0 ?_)
    | ((with_reducible show Ep (wc _ _ _ _ _ _ _ _ _)); refine nw ?_)
    | with_reducible refine Ax ?_
    | with_reducible refine Adz ?_
    | with_reducible refine J6 ?_
    | with_reducible refine I6 ?_
    | with_reducible refine Fo ?_
    | with_reducible refine Ad1 ?_
    | with_reducible refine Ad0 ?_
    | ((with_reducible refine cnd ?_); first | refine Fm rfl ?_ | refine Adi rfl ?_)
    | ((with_reducible show Kz _ _ _); refine Kz.mk κ ?_)
    | ((with_reducible show wc _ _ (.cond _ _ _) _ _ _ _ _ _); first | refine Zi ?_ | refine Ny ?_)
    | refine nw ?_
    | refine nx ?_
    | refine K0 ?_
    | refine Nt ?_
    | refine Ns ?_
    | (conv=>whnf
       first
      | ((with_reducible show Ep _); refine nw ?_)
      | ((with_reducible show G0 _ _ _); refine G0.mk _ rfl ?_)
      | ((with_reducible show Kv _ _); refine Ot ?_)
      | ((with_reducible show J1 _ _ _ _); refine Ow ?_)
      | ((with_reducible show F2 _ _ _); (first | refine Ou ?_ | refine Ov ?_)))
  exact q.get):P:=h ⟨k⟩
theorem ZO {P Q:Prop} (k:Q) (h:Hd Q->P:=by
  intro q
  repeat first
    | ((with_reducible show Ep (Eg _ _ _ _ _ (_::_) _ _ _ _ _)); (first | refine nx ?_ | refine Nt ?_ | refine Ns ?_))
    | ((with_reducible refine opk ?_); conv=>whnf
       first
      | ((with_reducible show G0 _ _ _); refine G0.mk _ rfl ?_)
      | ((with_reducible show Kv _ _); refine Ot ?_)
      | ((with_reducible show J1 _ _ _ _); refine Ow ?_)
      | ((with_reducible show F2 _ _ _); (first | refine Ou ?_ | refine Ov ?_)))
    | ((with_reducible show Ep (Eg _ _ _ _ _ [] _ _ _ _ _)); refine K0 ?_)
    | ((with_reducible show Kz _ _ _); refine Kz.mk κ ?_)
    | refine nx ?_
    | refine K0 ?_
    | refine Nt ?_
    | refine Ns ?_
    | (conv=>whnf
       first
      | ((with_reducible show G0 _ _ _); refine G0.mk _ rfl ?_)
      | ((with_reducible show Kv _ _); refine Ot ?_)
      | ((with_reducible show J1 _ _ _ _); refine Ow ?_)
      | ((with_reducible show F2 _ _ _); (first | refine Ou ?_ | refine Ov ?_)))
  exact q.get):P:=h ⟨k⟩
theorem Y {P:Prop} (h:P:=by
  repeat' first
    | ((with_reducible show Ep (Eg _ _ _ _ _ (_::_) _ _ _ _ _)); first | refine nx ?_ | refine Nt ?_ | refine Ns ?_ | refine E3 h (λ_ h=>?_) (λ_ h=>?_))
    | ((with_reducible refine opk ?_); conv=>whnf
       first
      | ((with_reducible show Ep _); refine nw ?_)
      | ((with_reducible show G0 _ _ _); refine G0.mk _ rfl ?_)
      | ((with_reducible show Kv _ _); refine Ot ?_)
      | ((with_reducible show Gc _ _ _ _ _ _); (first | refine A9 h (λ_ h=>?_) | refine Akh h (λ_ h=>?_)))
      | ((with_reducible show Us _ _ _); refine Bf h (λ_ _ _ _ h=>?_))
      | ((with_reducible show Pu _ _ _ _ _); (first | refine G2 h (λ_ _ _ _ h=>?_) | refine Iy h (λ_ _ _ _ h=>?_)))
      | ((with_reducible show J1 _ _ _ _); refine Ow ?_)
      | ((with_reducible show R8 _ _ _ _); refine Aki ?_)
      | ((with_reducible show Ku _ _ _ _ _ _ _); (first | refine Akj h (λ_ h=>?_) | refine L9 h (λ_ h=>?_) | refine Aao h (λ_ h=>?_)))
      | ((with_reducible show Pw _ _ _); (first | refine Akk h (λ_ h=>?_) | refine Akl h (λ_ h=>?_)))
      | ((with_reducible show R7 _ _ _ _ _); refine G3 h (λ_ h=>?_))
      | ((with_reducible show Pv _ _ _ _); (first | refine Akm h (λ_ h=>?_) | refine Rb h (λ_ h=>?_)))
      | ((with_reducible show F2 _ _ _); (first | refine Ou ?_ | refine Ov ?_))
      | ((with_reducible show Yv _ _ _); refine K2 h (λ_ h=>?_))
      | ((with_reducible show Yp _ _ _ _); refine U4 h (λ_ h=>?_))
      | ((with_reducible show Yq _ _ _); refine Zg h (λ_ h=>?_))
      | ((with_reducible show Ys _ _ _ _); refine Ajo h (λ_ h=>?_))
      | ((with_reducible show Yr _ _ _ _); refine Ajp h (λ_ h=>?_))
      | ((with_reducible show Yt _ _ _ _); refine Adx h (λ_ _ _ _ h=>?_))
      | ((with_reducible show Yw _ _); refine Gp h (λh=>?_))
      | ((with_reducible show Yx _ _ _ _ _); refine Ajh h (λ_ h=>?_))
      | ((with_reducible show Yy _ _ _ _); refine Aji h (λ_ h=>?_)))
    | ((with_reducible show Ep (Eg _ _ _ _ _ [] _ _ _ _ _)); refine K0 ?_)
    | ((with_reducible show Ep (wc _ _ _ _ _ _ _ _ _)); refine nw ?_)
    | with_reducible refine Ax ?_
    | with_reducible refine B2 ?_
    | with_reducible refine Adz ?_
    | with_reducible refine J6 ?_
    | with_reducible refine I6 ?_
    | with_reducible refine Fo ?_
    | with_reducible refine Ajr ?_
    | with_reducible refine Ad1 ?_
    | with_reducible refine Ad0 ?_
    | ((with_reducible refine cnd ?_); first | refine Fm rfl ?_ | refine Adi rfl ?_)
    | ((with_reducible show wc _ _ (.cond _ _ _) _ _ _ _ _ _); first | refine Am h (λ_ h=>?_) (λ_ h=>?_) | refine Zi ?_ | refine Ny ?_)
    | ((with_reducible show Kz _ _ _); refine Kz.mk κ ?_)
    | refine nx ?_
    | refine K0 ?_
    | refine Nt ?_
    | refine Ns ?_
    | refine E3 h (λ_ h=>?_) (λ_ h=>?_)
    | exact lpn h
    | exact jnn h
    | replace h:=B6 h
    | replace h:=lpj h
    | refine nw ?_
    | (conv=>whnf
       first
      | ((with_reducible show Ep _); refine nw ?_)
      | ((with_reducible show G0 _ _ _); refine G0.mk _ rfl ?_)
      | ((with_reducible show Kv _ _); refine Ot ?_)
      | ((with_reducible show Gc _ _ _ _ _ _); (first | refine A9 h (λ_ h=>?_) | refine Akh h (λ_ h=>?_)))
      | ((with_reducible show Us _ _ _); refine Bf h (λ_ _ _ _ h=>?_))
      | ((with_reducible show Pu _ _ _ _ _); (first | refine G2 h (λ_ _ _ _ h=>?_) | refine Iy h (λ_ _ _ _ h=>?_)))
      | ((with_reducible show J1 _ _ _ _); refine Ow ?_)
      | ((with_reducible show R8 _ _ _ _); refine Aki ?_)
      | ((with_reducible show Ku _ _ _ _ _ _ _); (first | refine Akj h (λ_ h=>?_) | refine L9 h (λ_ h=>?_) | refine Aao h (λ_ h=>?_)))
      | ((with_reducible show Pw _ _ _); (first | refine Akk h (λ_ h=>?_) | refine Akl h (λ_ h=>?_)))
      | ((with_reducible show R7 _ _ _ _ _); refine G3 h (λ_ h=>?_))
      | ((with_reducible show Pv _ _ _ _); (first | refine Akm h (λ_ h=>?_) | refine Rb h (λ_ h=>?_)))
      | ((with_reducible show F2 _ _ _); (first | refine Ou ?_ | refine Ov ?_))
      | ((with_reducible show Yv _ _ _); refine K2 h (λ_ h=>?_))
      | ((with_reducible show Yp _ _ _ _); refine U4 h (λ_ h=>?_))
      | ((with_reducible show Yq _ _ _); refine Zg h (λ_ h=>?_))
      | ((with_reducible show Ys _ _ _ _); refine Ajo h (λ_ h=>?_))
      | ((with_reducible show Yr _ _ _ _); refine Ajp h (λ_ h=>?_))
      | ((with_reducible show Yt _ _ _ _); refine Adx h (λ_ _ _ _ h=>?_))
      | ((with_reducible show Yw _ _); refine Gp h (λh=>?_))
      | ((with_reducible show Yx _ _ _ _ _); refine Ajh h (λ_ h=>?_))
      | ((with_reducible show Yy _ _ _ _); refine Aji h (λ_ h=>?_)))
    | (have h:=Option.some.inj h; subst h; exact rfl)
    | (cases h; (repeat refine ⟨rfl,?_⟩); exact trivial)
    | (cases h; done)
):P:=h
end Go.Ab
namespace Go.Ab
open Go Go.Proofs Go.Proofs.Tryz
set_option maxRecDepth 10000
set_option linter.unusedVariables false
theorem Auj {a0 r:List Dv} (h:Bx 16 [] a0=some r):As prog 320 [Au 2 Hb a0] (Au 2 Hb r):=by
 have h:((Bx 16 [] a0).bind λo=>some o)=some r:=by rw [h]; rfl
 refine pw {T:=B3,an:=(λs=>bif Nat.beq s 5 then .own else .ask),nl:=(λs=>bif Nat.beq s 2 then [(0,2)] else [])} func320 ?_;refine Ax ?_;refine B2 ?_;refine ZO ?_;refine Ax (Ax ?_);refine P7 (λb:Bool=>b=true->a0 = []) (λb=>[(4,Ak b)]) (λ_=>[]) (λ_=>rfl) ?_ ?_
 .intro K hK;refine Ad3 0 ?_;intro v hv;obtain ⟨p,c,rfl,hp⟩:=hv 2 (a0.map Hb) rfl;refine B2 ?_;refine nx ?_;refine nx ?_;refine K0 ?_;refine hK p.isNone _ _ _ (λe=>?_) ⟨rfl,trivial⟩ trivial;cases p with| none=>simpa using hp rfl| some _=>cases e
 .rintro b _ hb;cases b with
  | true=>have hb:=hb rfl;subst hb;have h:some ([]:List Dv)=some r:=(by rw [<-h]; rfl);exact Y
  | false=>refine Z ?_;exact Y
theorem Auk {a0:List Cn} {r:List Cn×List Cn} (h:Zk 40 a0=some r):Bo prog 205 [Au 3 Fd a0] [] (.arr 1 r.2.length 0 r.2.length) [.rows 68 3 (r.1.map Fd),.rows 68 3 (r.2.map Fd)]:=by
 have h:((Bx 40 [] a0).bind λo=>some (([]:List Cn),o))=some r:=h;refine aw {T:=B3,an:=(λs=>bif Nat.beq s 5 then .own else bif Nat.beq s 2 then .own else .ask),nl:=(λ_=>[])} false func205 ?_;refine Ax ?_;refine B2 ?_;refine ZO ?_;refine Ax (Ax ?_);refine P7 (λb:Bool=>b=true->a0 = []) (λb=>[(4,Ak b)]) (λ_=>[]) (λ_=>rfl) ?_ ?_
 .intro K hK;refine Ad3 0 ?_;intro v hv;obtain ⟨p,c,rfl,hp⟩:=hv 3 (a0.map Fd) rfl;refine B2 ?_;refine nx ?_;refine nx ?_;refine K0 ?_;refine hK p.isNone _ _ _ (λe=>?_) ⟨rfl,trivial⟩ ⟨⟨rfl,rfl⟩,trivial⟩;cases p with| none=>simpa using hp rfl| some _=>cases e
 .rintro b _ hb;cases b with
  | true=>have hb:=hb rfl;subst hb;have h:some (([]:List Cn),([]:List Cn))=some r:=(by rw [<-h]; rfl);cases h;refine ZO ?_;exact Y
  | false=>refine Z ?_;refine ZO ?_;refine L9 h (λ_ h=>?_);exact Y
theorem Aul {a0:List Cb} {r:List Cb×List Cb} (h:Zk 40 a0=some r):Bo prog 211 [Au 3 Eh a0] [] (.arr 1 r.2.length 0 r.2.length) [.rows 75 3 (r.1.map Eh),.rows 75 3 (r.2.map Eh)]:=by
 have h:((Bx 40 [] a0).bind λo=>some (([]:List Cb),o))=some r:=h;refine aw {T:=B3,an:=(λs=>bif Nat.beq s 5 then .own else bif Nat.beq s 2 then .own else .ask),nl:=(λ_=>[])} false func211 ?_;refine Ax ?_;refine B2 ?_;refine ZO ?_;refine Ax (Ax ?_);refine P7 (λb:Bool=>b=true->a0 = []) (λb=>[(4,Ak b)]) (λ_=>[]) (λ_=>rfl) ?_ ?_
 .intro K hK;refine Ad3 0 ?_;intro v hv;obtain ⟨p,c,rfl,hp⟩:=hv 3 (a0.map Eh) rfl;refine B2 ?_;refine nx ?_;refine nx ?_;refine K0 ?_;refine hK p.isNone _ _ _ (λe=>?_) ⟨rfl,trivial⟩ ⟨⟨rfl,rfl⟩,trivial⟩;cases p with| none=>simpa using hp rfl| some _=>cases e
 .rintro b _ hb;cases b with
  | true=>have hb:=hb rfl;subst hb;have h:some (([]:List Cb),([]:List Cb))=some r:=(by rw [<-h]; rfl);cases h;refine ZO ?_;exact Y
  | false=>refine Z ?_;refine ZO ?_;refine L9 h (λ_ h=>?_);exact Y
end Go.Ab
namespace Go.Ab
open Go Go.Proofs Go.Shelf Go.Proofs.Tryz
set_option maxRecDepth 100000
set_option linter.unusedVariables false
def Aum:Ren:={f:=λx=>match x with | 189=>46 | 125=>97 | 257=>96 | 128=>173 | 129=>174 | 294=>164 | 295=>165 | 296=>166 | 297=>167 | 298=>168 | 299=>169 | 216=>170 | 300=>171 | 301=>172 | 328=>240 | 329=>241 | 330=>242 | 331=>243 | 332=>244 | 215=>238 | 343=>287 | n=>n,t:=λx=>match x with | 28=>53 | 3=>3 | 46=>145 | 0=>0 | 51=>110 | 53=>124 | 4=>4 | 183=>207 | 182=>206 | 131=>212 | 5=>5 | 9=>9 | 218=>284 | 222=>93 | 228=>335 | 229=>336 | n=>n,g:=λn=>n}
theorem Aun:Lays.n189 prog Aum:=by
 constructor;all_goals first | kernel_rfl | (intro w; kernel_rfl) | constructor
 all_goals first | kernel_rfl | (intro w; kernel_rfl)
theorem Ci.up {σ:A1} {ι:Br} {H:Hp} {F:A1} {w w':World} {x:Nat} (h:Ci σ ι H F w x) (hk:∀(b:Nat) (o:Obj),w.heap[b]? = some o->w'.heap[b]? = some o):Ci σ ι H F w' x:=by
 unfold Ci at h ⊢;cases hx:H x with
 | none=>rw [hx] at h; exact h
 | dead=>trivial
 | cells E cs=>rw [hx] at h;obtain ⟨b,C,h1,h2,h3,h4,f⟩:=h;exact ⟨b,C,h1,h2,h3,hk _ _ h4,f⟩
 | rows E sz xs=>
  rw [hx] at h;obtain ⟨h0,h1,h2⟩:=h;refine ⟨h0,h1,?_⟩;rcases h2 with h2 | ⟨b,c,C,k,e2,j,i,g⟩
  .exact .inl h2
  .exact .inr ⟨b,c,C,k,e2,j,hk _ _ i,g⟩
 | map es=>rw [hx] at h;obtain ⟨b,M,t,h1,h2,h3,h4,f⟩:=h;exact ⟨b,M,t,h1,h2,h3,hk _ _ h4,f⟩
theorem St.growG {σ:A1} {ι:Br} {H:Hp} {F:A1} {W w:World} (s:St σ ι H F W w) (k:Nat) (os:Array Obj):St σ ι H F W (Sort.grow (Sort.ahead w k) os):=by
 have hk:∀(b:Nat) (o:Obj),w.heap[b]? = some o->(Sort.grow (Sort.ahead w k) os).heap[b]? = some o:=by intro b o h;have c:=(Array.getElem?_eq_some_iff.1 h).1;show (w.heap++os)[b]? = _;rw [Array.getElem?_append_left c]; exact h
 exact ⟨λb o h=>hk b o (s.sto b o h),λb o h=>⟨hk b o (s.fra b o h).1,(s.fra b o h).2⟩,λh=>(s.obj h).up hk,s.inj,s.os,s.tape,s.output,s.glo,Nat.le_trans s.drw (Nat.le_add_right _ _)⟩
theorem Akn {α:Type} [Inhabited α] (enc:α->Value) (w:World) (b:Nat) (d:Array α) (C:Array Value) (E:TypeId) (h:w.heap[b]? = some (.cells C E (0,0))):Sort.putRow enc w b 0 d=w.setRow b (Sort.putCells enc 0 d C):=by
 have c:(Sort.putRow enc w b 0 d).heap=(w.setRow b (Sort.putCells enc 0 d C)).heap:=by
  apply Array.ext_getElem?;intro i;simp only [Sort.putRow,Sort.mapBlock,World.setRow,Array.getElem?_modify];split
  .rename_i e; subst e;rw [h]; simp [Sort.onCells]
  .rfl
 unfold Sort.putRow Sort.mapBlock World.setRow at c ⊢;simp only at c;rw [c]
theorem Auo {b r:List Int} (h:Ai7 b=some r) (M:b≠[]):Bo prog 46 [.arr 0 b.length 0 b.length] [.rows 3 1 (List.map (O .i64) b)] (.tup []) [.rows 3 1 (List.map (O .i64) r)]:=by
 cases h
 .skip;refine ⟨⟨_,func46,κ,κ⟩,λσ F W w ι vs s J=>?_⟩;obtain ⟨v,rfl,hv⟩:=Tv J;have hh:hp [.rows 3 1 (List.map (O .i64) b)] 0 = .rows 3 1 (List.map (O .i64) b):=rfl;have l:=hv.arr_inv hh ψ;have hor:=s.obj 0;unfold Ci at hor;rw [hh] at hor;obtain ⟨_,G,hor⟩:=hor;rw [List.length_map] at G;rcases hor with ⟨_,E⟩ | ⟨g,q,D,Y,g1,g2,g3,g4,g5,g6⟩
  .exact (M (by simpa using E)).elim
  .rw [List.length_map] at g5;unfold Ft at l;rw [Y] at l;simp only [Nat.zero_mul,Nat.zero_add,Nat.sub_zero] at l;obtain ⟨ht,B⟩:=l;subst B;have k:∀(j:Nat) (x:Int),b[j]? = some x->D[j]? = some (Value.int .i64 x):=(by intro j x hx;obtain ⟨Z,q1,q2,q3⟩:=g6;have A:(List.map (O .i64) b)[j]? = some (O .i64 x):=(by rw [List.getElem?_map,hx]; rfl);have N:j<(List.map (O .i64) b).length:=(List.getElem?_eq_some_iff.1 A).1;have V:=q3 j 0 N ω;have U:=(q2 j _ 0 _ A rfl).1;have:Z j 0=Value.int .i64 x:=(by generalize Z j 0=z at U;cases U; rfl);rw [this] at V;simpa using V);have hH:Sort.Holds (Value.int .i64) w g 0 b.toArray:=by
    intro j hj;have hj':j<b.length:=(by simpa using hj);have hx:b[j]? = some b[j]:=List.getElem?_eq_getElem hj';have hD:=k j _ hx;have e1:b.toArray[j]! = b[j]:=(by rw [getElem!_pos b.toArray j hj]; simp);rw [e1];refine ⟨?_,?_⟩
    .rw [Nat.zero_add,Ig g3]; exact hD
    .simp [World.frozen?,g3]
   have call:=Any.slices_Sort_int Aun g 0 q b w hH (Array.getElem?_eq_some_iff.1 g3).1 ω;refine call.mono ?_;rintro e w' ⟨rfl,n,os,rfl⟩;generalize hr:b.mergeSort (λx y=>decide (x<=y))=r;have I:r.length=b.length:=(by rw [<-hr]; exact List.length_mergeSort b);have L:(Sort.putCells (Value.int .i64) 0 r.toArray D).size=q*1:=(by unfold Sort.putCells; rw [Array.size_mapIdx]; exact g4);obtain ⟨s',le⟩:=s.setRows 0 3 1 _ (List.map (O .i64) r) hh g q Y (by simp [I]) (Sort.putCells (Value.int .i64) 0 r.toArray D) L (by
    refine ⟨λi _=>match r[i]? with | some z=>.int .i64 z | none=>.bool false,?_,?_,?_⟩
    .intro i x hx;rw [List.getElem?_map] at hx;obtain ⟨z,X,rfl⟩:=Option.map_eq_some_iff.1 hx;rfl
    .intro i x j c hx f;rw [List.getElem?_map] at hx;obtain ⟨z,X,rfl⟩:=Option.map_eq_some_iff.1 hx;have f:([O .i64 z]:List AV)[j]? = some c:=f
     match j with| 0=>cases f; simp only [X]; exact ⟨.val _,rfl⟩| j+1=>simp at f
    .intro i j hi hj;have R:j=0:=ω;subst R;have u:i<r.length:=(by simpa using hi);have S:i<D.size:=(by rw [g4]; omega);simp only [Nat.mul_one,Nat.add_zero,List.getElem?_eq_getElem u];unfold Sort.putCells;rw [Array.getElem?_mapIdx,Array.getElem?_eq_getElem S];simp only [Option.map_some,Nat.zero_le,true_and,Nat.zero_add,List.size_toArray,u,if_true,Nat.sub_zero];congr 2;rw [getElem!_pos r.toArray i (by simpa using u)]; simp)
   have eH:A4 (hp [.rows 3 1 (List.map (O .i64) b)]) 0 (.rows 3 1 (List.map (O .i64) r))=hp [.rows 3 1 (List.map (O .i64) r)]:=by
    funext i
    match i with| 0=>rfl| i+1=>rfl
   rw [eH] at le s';have eW:Sort.grow (Sort.putRow (Value.int .i64) (Sort.ahead w n) g 0 r.toArray) os=Sort.grow (Sort.ahead (w.setRow g (Sort.putCells (Value.int .i64) 0 r.toArray D)) n) os:=(by rw [Akn (Value.int .i64) (Sort.ahead w n) g r.toArray D 3 g3];rfl);rw [eW];exact ⟨_,σ,ι,rfl,le,s'.growG n os,.tup _ _ rfl (λi c v h1 _=>by cases h1)⟩
end Go.Ab
namespace Go.Ab
open Go Go.Proofs Go.Shelf Go.Sort Go.Proofs.Tryz
set_option maxRecDepth 100000
set_option linter.unusedVariables false
theorem Aup {v:Value} (h:D5 v=true):v.oneCell'=true:=by cases v <;> first | rfl | cases h
theorem Auq {σ:A1} {ι:Br} {H:Hp} {f:FuncId} {v:Value} (h:Conc σ ι H (.fn f []) v):v = .func (.func f) #[] #[]:=by cases h with| cc h=>cases h| fn _ _ vs b _=>have:vs = #[]:=Array.size_eq_zero_iff.1 (by simpa using b);rw [this]
def Ako {α:Type} (σ:A1) (eA:α->AV) (sz:Nat) (S:List α) (x:α) (c:List Value):Prop := x∈S/\(eA x).cells.length=sz/\c.length=sz/\∀(j:Nat) (a:AV) (v:Value),(eA x).cells[j]? = some a->c[j]? = some v->CC σ a v/\D5 v=true
abbrev Ma {α:Type} (σ:A1) (eA:α->AV) (sz:Nat) (S:List α):Type:={p:α×List Value // Ako σ eA sz S p.1 p.2}
theorem Aur {σ:A1} {W w':World} (g:∀b o,W.heap[b]? = some o->σ b=some o) (s:St σ ι0 H0 (λ_=>none) W w'):∃q f,w'=grow (W.drewN q) f:=by
 have hk:∀b o,W.heap[b]? = some o->w'.heap[b]? = some o:=λb o h=>s.sto b o (g b o h);have j:W.heap.size<=w'.heap.size:=by
  rcases Nat.eq_zero_or_pos W.heap.size with h | h
  .omega
  .have:=hk (W.heap.size-1) _ (Array.getElem?_eq_getElem ω);have:=(Array.getElem?_eq_some_iff.1 this).1;omega
 refine ⟨w'.drawn-W.drawn,w'.heap.extract W.heap.size w'.heap.size,?_⟩;have c:w'.heap=W.heap++w'.heap.extract W.heap.size w'.heap.size:=by
  apply Array.ext_getElem?;intro i;by_cases hi:i<W.heap.size
  .rw [Array.getElem?_append_left hi,Array.getElem?_eq_getElem hi];exact hk i _ (Array.getElem?_eq_getElem hi)
  .rw [Array.getElem?_append_right ω];by_cases hj:i<w'.heap.size
   .rw [Array.getElem?_eq_getElem hj,Array.getElem?_eq_getElem (by simp; omega)];simp only [Array.getElem_extract];congr 2;omega
   .rw [Array.getElem?_eq_none ω,Array.getElem?_eq_none (by simp; omega)]
 have h1:=s.os;have h2:=s.tape;have h3:=s.output;have h4:=s.drw;cases w' with| mk heap tape drawn os output=>simp only at h1 h2 h3 h4 c;unfold grow World.drewN;simp only [World.mk.injEq];exact ⟨c,h2,ω,h1,h3⟩
theorem Aus {ρ:Ren} {α:Type} {eA:α->AV} {E:TypeId} {sz f g:Nat} {cmp:α->α->Option Int} (L:SlLaysF0.n6 prog ρ) (hf:ρ.f 6=f) (a6:Yo prog f) (aE:∀w,(isAgg (ρ.t 24)).run prog w = .ok true w) (zE:∀w,(Go.sizeOf (ρ.t 24)).run prog w = .ok sz w) (eg:∀args w,(callFunc g args).run prog w = .ok (.enter g args) w) (ax:∀x y n,cmp x y=some n->As prog g [eA x,eA y] (O .i64 n)) (az:∀x,∃cs,eA x = .agg cs) {l r:List α} (h:U5 cmp l=some r) (aj:l≠[]) : Bo prog f [.arr 0 l.length 0 l.length,.fn g []] [.rows E sz (l.map eA)] (.tup []) [.rows E sz (r.map eA)]:=by
 obtain ⟨cf,law,bb,G,A⟩:=At6 h;refine ⟨a6,λσ F W w ι vs s av=>?_⟩;obtain ⟨v,v2,rfl,hv,b5⟩:=Afg av;obtain rfl:=Auq b5;have hh:hp [.rows E sz (l.map eA)] 0 = .rows E sz (l.map eA):=rfl;have N:=hv.arr_inv hh ψ;have hor:=s.obj 0;unfold Ci at hor;rw [hh] at hor;obtain ⟨S,am,hor⟩:=hor;rw [List.length_map] at am;rcases hor with ⟨_,ah⟩ | ⟨b,U,D,hb,g1,g2,g3,g4,g5,g6⟩
 .exact (aj (by simpa using ah)).elim
 rw [List.length_map] at g5;unfold Ft at N;rw [hb] at N;simp only [Nat.zero_mul,Nat.sub_zero] at N;obtain ⟨ht,aa⟩:=N;subst aa;obtain ⟨gg,q1,q2,q3⟩:=g6;have a8:∀(i:Nat) (x:α),l[i]? = some x->(l.map eA)[i]? = some (eA x):=λi x hx=>by rw [List.getElem?_map,hx]; rfl
 have Z:∀(i:Nat) (hi:i<l.length),Ako σ eA sz l l[i] ((List.range sz).map (gg i)):=by intro i hi;have hx:l[i]? = some l[i]:=List.getElem?_eq_getElem hi;refine ⟨List.getElem_mem hi,q1 i _ (a8 i _ hx),ψ,λj a v ha hv=>?_⟩;rw [List.getElem?_map,Option.map_eq_some_iff] at hv;obtain ⟨k,hk,rfl⟩:=hv;have b9:k=j:=(by have:=(List.getElem?_eq_some_iff.1 hk).2;simpa using this.symm);subst b9;exact q2 i _ k a (a8 i _ hx) ha
 have hpos:0<l.length:=List.length_pos_iff.2 aj;let d:Array (Ma σ eA sz l):=Array.ofFn λi:Fin l.length=>⟨(l[i.1],(List.range sz).map (gg i.1)),Z i.1 i.2⟩
 haveI:Inhabited (Ma σ eA sz l):=⟨⟨(l[0],(List.range sz).map (gg 0)),Z 0 hpos⟩⟩;have B:d.size=l.length:=by simp [d]
 have ba:∀i (hi:i<l.length),d[i]! = ⟨(l[i],(List.range sz).map (gg i)),Z i hi⟩:=λi hi=>by rw [getElem!_pos d i (by rw [B]; exact hi)]; simp [d]
 let enc:Ma σ eA sz l->List Value:=λp=>p.1.2
 have hk:∀x:Ma σ eA sz l,(enc x).length=sz:=λx=>x.2.2.2.1;have h1:∀x:Ma σ eA sz l,∀v∈enc x,v.oneCell'=true:=by intro x v hv;obtain ⟨j,hj⟩:=List.getElem?_of_mem hv;have q:=(List.getElem?_eq_some_iff.1 hj).1;rw [hk x] at q;have ha:(eA x.1.1).cells[j]? = some ((eA x.1.1).cells[j]'(by rw [x.2.2.1]; exact q)):=List.getElem?_eq_getElem _;exact Aup (x.2.2.2.2 j _ v ha hj).2
 let a7:Ma σ eA sz l->Ma σ eA sz l->Int:=λx y=>cf x.1.1 y.1.1
 have hO:SWO (ltOf a7):=by
  constructor
  .intro x; exact decide_eq_false (law.irr x.1.1)
  .intro x y z X V;exact decide_eq_true (law.trs _ _ _ (of_decide_eq_true X) (of_decide_eq_true V))
  .intro x y z X V;exact decide_eq_false (law.ntr _ _ _ (of_decide_eq_false X) (of_decide_eq_false V))
 have hH:HoldsK enc sz w b 0 d:=by
  intro t Y;rw [size_flatK,B] at Y;have ac:t / sz<l.length:=Nat.div_lt_of_lt_mul (by rw [Nat.mul_comm]; exact Y);have ab:t % sz<sz:=Nat.mod_lt _ S;rw [get_flatK _ _ _ _ (by rw [B]; exact Y),ba _ ac];have e:=q3 (t / sz) (t % sz) (by rw [List.length_map]; exact ac) ab;rw [show t / sz*sz+t % sz=t by rw [Nat.mul_comm]; exact Nat.div_add_mod t sz] at e;refine ⟨?_,?_⟩
  .rw [Nat.zero_add,Ig g3,e];show some _=some (id _);congr 1;show gg _ _=((List.range sz).map (gg (t / sz)))[t % sz]!;rw [getElem!_pos _ _ (by simpa using ab)];simp
  .simp [World.frozen?,g3]
 have hblk:b<w.heap.size:=(Array.getElem?_eq_some_iff.1 g3).1;have hC:CmpLays prog g #[] enc sz a7 b 0 d.size w:=by
  intro m os dk hs x y;generalize b4:sortWorldK enc sz w b 0 m dk os=R;have ap:∀b' o,σ b'=some o->R.heap[b']? = some o:=(by intro b' o ho;have ai:b≠b':=(by rintro rfl;rw [g1] at ho; cases ho);have e:=s.sto b' o ho;have q:=(Array.getElem?_eq_some_iff.1 e).1;rw [<-b4];show ((w.heap.modify b _)++os)[b']? = _;rw [Array.getElem?_append_left (by simpa using q),Array.getElem?_modify,if_neg ai]; exact e);have ar:=bb x.1.1 x.2.1 y.1.1 y.2.1;have hp:=ax _ _ _ ar;have s1:St ((λb=>R.heap[b]?)) ι0 H0 (λ_=>none) R R:=⟨λ_ _ e=>e,(λ_ _ e=>by cases e),λ_=>rfl,(λ_ _ _ hl=>by cases hl),rfl,rfl,rfl,s.glo.mono ap,Nat.le_refl _⟩;have ay:∀z:Ma σ eA sz l,Conc ((λb=>R.heap[b]?)) ι0 H0 (eA z.1.1) (.agg (enc z).toArray):=by
   intro z;obtain ⟨cs,au⟩:=az z.1.1;have I:(eA z.1.1).cells=cs:=(by rw [au]; rfl);rw [au];refine .cc (.agg _ _ ?_ λi c v hc hv=>?_)
   .rw [<-I,z.2.2.1]; simp [hk z]
   .rw [<-I] at hc;exact (z.2.2.2.2 i c v hc (by simpa using hv)).1.mono ap
  refine (hp.2 ((λb=>R.heap[b]?)) (λ_=>none) R R _ s1 ⟨rfl,?_⟩).mono ?_
  .intro i a v ha hv
   match i,ha,hv with| 0,ha,hv=>cases ha; cases hv; exact ay x| 1,ha,hv=>cases ha; cases hv; exact ay y| n+2,ha,hv=>simp at ha
  .rintro e w' ⟨v,σ',rfl,ao,b6,hc⟩;refine ⟨?_,?_⟩
   .cases hc with| cc h=>cases h; rfl
   .exact Aur (σ:=σ') (λb o ho=>ao b o ho) b6
 have call:=AnyQ.slices_SortFunc L sz aE zE enc hk h1 a7 hO g #[] b 0 U d w eg hC hH hblk (by rw [B]; omega);rw [hf,B] at call;refine call.mono ?_;rintro e w' ⟨rfl,u,n,os,b8,b7,rfl⟩;obtain ⟨p1,p2,p3⟩:=b8;have M:u.size=l.length:=by rw [p1,B]
 have J:∀(a:Array (Ma σ eA sz l)),a.size=l.length->(a.extract 0 l.length).toList=a.toList:=λa ha=>by rw [<-ha]; simp
 rw [J u M,J d B] at p3;have ak:d.toList.map (λp=>p.1.1)=l:=by
  apply List.ext_getElem
  .simp [B]
  .intro i bf be;simp [d]
 have ag:(u.toList.map λp=>p.1.1).Perm l:=by have:=p3.map λp:Ma σ eA sz l=>p.1.1;rwa [ak] at this
 have hR:(u.toList.map λp=>p.1.1).Pairwise λx y=>cf x y<0\/cf y x<0:=by refine ((ag.trans G.symm).pairwise_iff (λ{x y} h=>h.symm)).2 ?_;exact A.imp λh=>.inl h
 have hS:(u.toList.map λp=>p.1.1).Pairwise λx y=>cf x y<0:=by
  rw [List.pairwise_iff_getElem] at hR ⊢;intro i j hi hj aq;simp only [List.length_map,Array.length_toList] at hi hj;rcases hR i j (by simpa using hi) (by simpa using hj) aq with h | h
  .exact h
  .have:=b7 i j (Nat.zero_le _) aq ω;rw [getElem!_pos u i hi,getElem!_pos u j hj] at this;have:=of_decide_eq_false this;simp only [List.getElem_map,Array.getElem_toList] at h;exact (this h).elim
 have af:u.toList.map (λp=>p.1.1)=r:=by refine List.Perm.eq_of_pairwise (le:=λx y=>cf x y<0) (λx y _ _ h1 h2=>(law.irr x (law.trs _ _ _ h1 h2)).elim) hS A (ag.trans G.symm)
 have ae:r.length=l.length:=G.length_eq;have bd:(flatK enc sz u).size=l.length*sz:=by rw [size_flatK,M]
 have b3:(Sort.putCells id 0 (flatK enc sz u) D).size=U*sz:=by unfold Sort.putCells; rw [Array.size_mapIdx]; exact g4
 have ad:∀(i:Nat) (x:α),r[i]? = some x->i<u.size/\(u[i]!).1.1=x:=by intro i x hx;rw [<-af,List.getElem?_map,Option.map_eq_some_iff] at hx;obtain ⟨p,hp,rfl⟩:=hx;have q:=(List.getElem?_eq_some_iff.1 hp).1;simp only [Array.length_toList] at q;refine ⟨q,?_⟩;rw [getElem!_pos u i q];have:=(List.getElem?_eq_some_iff.1 hp).2;simp only [Array.getElem_toList] at this;rw [this]
 obtain ⟨s',le⟩:=s.setRows 0 E sz _ (r.map eA) hh b U hb (by simp [ae]) (Sort.putCells id 0 (flatK enc sz u) D) b3 (by
  refine ⟨λi j=>(enc u[i]!)[j]!,?_,?_,?_⟩
  .intro i x hx;rw [List.getElem?_map] at hx;obtain ⟨z,hz,rfl⟩:=Option.map_eq_some_iff.1 hx;obtain ⟨e1,e2⟩:=ad i z hz;rw [<-e2]; exact (u[i]!).2.2.1
  .intro i x j c hx a1;rw [List.getElem?_map] at hx;obtain ⟨z,hz,rfl⟩:=Option.map_eq_some_iff.1 hx;obtain ⟨e1,e2⟩:=ad i z hz;rw [<-e2] at a1;have q:=(List.getElem?_eq_some_iff.1 a1).1;rw [(u[i]!).2.2.1,<-(u[i]!).2.2.2.1] at q;have hg:(u[i]!).1.2[j]? = some ((enc u[i]!)[j]!):=(by rw [List.getElem?_eq_getElem q,getElem!_pos (enc u[i]!) j q]);exact (u[i]!).2.2.2.2 j c _ a1 hg
  .intro i j hi hj;rw [List.length_map,ae] at hi;have q:i*sz+j<l.length*sz:=(by have:=Nat.mul_le_mul_right sz (show i+1<=l.length from hi);rw [Nat.add_mul,Nat.one_mul] at this; omega);have hD:i*sz+j<D.size:=(by rw [g4];exact Nat.lt_of_lt_of_le q (Nat.mul_le_mul_right sz g5));unfold Sort.putCells;rw [Array.getElem?_mapIdx,Array.getElem?_eq_getElem hD];simp only [Option.map_some,Nat.zero_le,true_and,Nat.zero_add,bd,q,if_true,Nat.sub_zero];congr 1;show id ((flatK enc sz u)[i*sz+j]!)=_;rw [get_flatK _ _ _ _ (by rw [M]; exact q)];have e1:(i*sz+j) / sz=i:=(by rw [Nat.mul_comm,Nat.mul_add_div S,Nat.div_eq_of_lt hj,Nat.add_zero]);have e2:(i*sz+j) % sz=j:=(by rw [Nat.mul_comm,Nat.mul_add_mod,Nat.mod_eq_of_lt hj]);rw [e1,e2]; rfl);have eH:A4 (hp [.rows E sz (l.map eA)]) 0 (.rows E sz (r.map eA))=hp [.rows E sz (r.map eA)]:=by
  funext i
  match i with| 0=>rfl| i+1=>rfl
 rw [eH] at le s';have eW:sortWorldK enc sz w b 0 n u os=Sort.grow (Sort.ahead (w.setRow b (Sort.putCells id 0 (flatK enc sz u) D)) n) os:=by unfold sortWorldK putRowK;rw [Akn id (Sort.ahead w n) b (flatK enc sz u) D E g3];rfl
 rw [eW];exact ⟨_,σ,ι,rfl,le,s'.growG n os,.tup _ _ rfl (λi c v h1 _=>by cases h1)⟩
def Aut:Ren:={f:=λx=>match x with | 6=>217 | 15=>97 | 14=>275 | 28=>173 | 29=>174 | 20=>311 | 21=>312 | 22=>313 | 23=>314 | 24=>315 | 25=>316 | 26=>317 | 27=>318 | 46=>350 | 47=>241 | 48=>242 | 49=>351 | 50=>352 | 57=>367 | n=>n,t:=λx=>match x with | 22=>28 | 24=>63 | 25=>264 | 3=>3 | 39=>145 | 0=>0 | 53=>110 | 55=>124 | 4=>4 | 46=>207 | 45=>206 | 50=>212 | 5=>5 | 9=>9 | 66=>284 | 70=>93 | 76=>335 | 77=>336 | n=>n,g:=λn=>n}
theorem Auu:SlLaysF0.n6 prog Aut:=by
 constructor
 case f6=>exact Exists.intro "slices.SortFunc[[]amortcost/api.Term,amortcost/api.Term]" ⟨κ,κ⟩
 case f14=>exact Exists.intro "slices.pdqsortCmpFunc[amortcost/api.Term]" ⟨κ,κ⟩
 case f20=>exact Exists.intro "slices.insertionSortCmpFunc[amortcost/api.Term]" ⟨κ,κ⟩
 case f21=>exact Exists.intro "slices.heapSortCmpFunc[amortcost/api.Term]" ⟨κ,κ⟩
 case f22=>exact Exists.intro "slices.breakPatternsCmpFunc[amortcost/api.Term]" ⟨κ,κ⟩
 case f23=>exact Exists.intro "slices.choosePivotCmpFunc[amortcost/api.Term]" ⟨κ,κ⟩
 case f24=>exact Exists.intro "slices.reverseRangeCmpFunc[amortcost/api.Term]" ⟨κ,κ⟩
 case f25=>exact Exists.intro "slices.partialInsertionSortCmpFunc[amortcost/api.Term]" ⟨κ,κ⟩
 case f26=>exact Exists.intro "slices.partitionEqualCmpFunc[amortcost/api.Term]" ⟨κ,κ⟩
 case f27=>exact Exists.intro "slices.partitionCmpFunc[amortcost/api.Term]" ⟨κ,κ⟩
 case f46=>exact Exists.intro "slices.siftDownCmpFunc[amortcost/api.Term]" ⟨κ,κ⟩
 case f49=>exact Exists.intro "slices.medianAdjacentCmpFunc[amortcost/api.Term]" ⟨κ,κ⟩
 case f50=>exact Exists.intro "slices.medianCmpFunc[amortcost/api.Term]" ⟨κ,κ⟩
 case f57=>exact Exists.intro "slices.order2CmpFunc[amortcost/api.Term]" ⟨κ,κ⟩
 all_goals first | kernel_rfl | (intro w; kernel_rfl)
theorem Auv {α:Type} {eA:α->AV} {g:Nat} {cmp:α->α->Option Int} (j:∀args w,(callFunc g args).run prog w = .ok (.enter g args) w) (b:∀x y n,cmp x y=some n->As prog g [eA x,eA y] (O .i64 n)) (c:∀x,∃cs,eA x = .agg cs) {f r:List α} (h:U5 cmp f=some r) (i:f≠[]) : Bo prog 217 [.arr 0 f.length 0 f.length,.fn g []] [.rows 63 5 (f.map eA)] (.tup []) [.rows 63 5 (r.map eA)] := Aus Auu rfl ⟨_,func217,κ,κ⟩ (by intro w; kernel_rfl) (by intro w; kernel_rfl) j b c h i
end Go.Ab
namespace Go.Ab
open Go Go.Proofs Go.Shelf Go.Proofs.Tryz
set_option maxRecDepth 100000
set_option linter.unusedVariables false
theorem Yk {σ:A1} {ι:Br} {H:Hp} {u v:Value} (h:Conc σ ι H (.val u) v):v=u:=by cases h with| cc h=>cases h; rfl
theorem Akp {ρ:Ren} {α:Type} {eA:α->AV} {E:TypeId} {sz f:Nat} (L:Lays8.n4 prog ρ) (N:ρ.f 4=f) (g:Yo prog f) (l:TypeInfo) (z:Value) (G:prog.info? (ρ.t 25)=some l) (D:l.zero=some z) (V:ρ.t 25=E) (S:l.size=sz) (B:z.cells.size=sz) (q:0<sz) (I:l.bytes<=1000) {n:Int} {r:List α} (h:Sj n=some r):Bo prog f [.val (.slice none 0 0),O .i64 n] [] (.arr 0 r.length 0 r.length) [.rows E sz (r.map eA)]:=by
 have U:r = []/\0<=n/\n<=1000000:=by
  unfold Sj at h;by_cases h1:0<=n
  .by_cases h2:n<=1000000
   .rw [decide_eq_true h1,decide_eq_true h2] at h;have h:some ([]:List α)=some r:=h;cases h; exact ⟨rfl,h1,h2⟩
   .rw [decide_eq_false h2,Bool.and_false] at h; cases h
  .rw [decide_eq_false h1,Bool.false_and] at h; cases h
 obtain ⟨rfl,n0,Z⟩:=U;obtain ⟨m,rfl⟩:∃m:Nat,n=m:=⟨n.toNat,ω⟩;refine ⟨g,λσ F W w ι vs s y=>?_⟩;obtain ⟨v,u,rfl,hv,hu⟩:=Afg y;obtain rfl:=Yk hv;obtain rfl:=Yk hu;have M:hp [] 0 = .none:=rfl;have R:A4 (hp []) 0 (.rows E sz [])=hp [.rows E sz []]:=by
  funext i
  match i with| 0=>rfl| i+1=>rfl
 by_cases h0:m=0
 .subst h0;have call:=Any8.slices_Grow_room L none 0 0 0 w (Nat.le_refl _) δ δ δ;rw [N] at call;refine call.mono ?_;rintro e w' ⟨rfl,rfl⟩;obtain ⟨s',le⟩:=s.newNil 0 M E sz q;rw [R] at s' le;refine ⟨_,σ,_,rfl,le,s',.arr 0 0 0 0 _ (by intro e; cases e) (λY A xs e=>?_) rfl⟩;cases e;refine ⟨Nat.le_refl _,λ_=>?_⟩;unfold Ft;rw [Ce];exact ⟨rfl,rfl,rfl⟩
 .have hb:(0+m)*l.bytes<=140737488355328:=(by have:=Nat.mul_le_mul (show 0+m<=1000000 by omega) I;omega);have call:=Any8.slices_Grow_grow L l z G D ω none 0 0 m [] w (Nat.le_refl _) ω hb ω ψ (λ_=>rfl) (λa h=>by cases h);rw [N,V] at call;refine call.mono ?_;rintro e w' ⟨rfl,rfl⟩;have hge:=Ye w (0+m) 0 E;generalize grownCap w (0+m) 0 E=cap at hge;have b:∀k,(Builtin.zeroCells z.cells k).size=k*sz:=(by intro k; simp [Builtin.zeroCells,B]);generalize X:(([]:List Value).toArray++Builtin.zeroCells z.cells (0+m-0)++Builtin.zeroCells z.cells (cap-(0+m)))=C;have J:C.size=cap*sz:=(by rw [<-X,Array.size_append,Array.size_append,b,b];simp only [List.size_toArray,List.length_nil,Nat.zero_add,Nat.sub_zero,<-Nat.add_mul];congr 1; omega);obtain ⟨s',le⟩:=(s.drew (w.drawn+1)).newRows 0 E sz [] cap C (.inl M) q ψ ψ J ⟨λ_ _=>.bool false,(by intro i x h; simp at h),(by intro i x j c h; simp at h),(by intro i j h; simp at h)⟩;rw [R] at s' le;refine ⟨_,σ,_,rfl,le,s',.arr 0 0 0 0 _ (by intro e; cases e) (λY A xs e=>?_) rfl⟩;cases e;refine ⟨Nat.le_refl _,λ_=>?_⟩;unfold Ft;rw [Ce];exact ⟨Nat.zero_le _,ψ⟩
def Auw:Ren:={f:=λx=>match x with | 4=>345 | n=>n,t:=λx=>match x with | 22=>58 | 25=>68 | 3=>3 | 4=>4 | 9=>9 | 20=>20 | 0=>0 | n=>n,g:=λn=>n}
theorem Aux:Lays8.n4 prog Auw:=by
 constructor
 case f4=>exact Exists.intro "slices.Grow[[]amortcost/api.Factor,amortcost/api.Factor]" ⟨κ,κ⟩
 all_goals first | kernel_rfl | (intro w; kernel_rfl)
theorem Auy {α:Type} {eA:α->AV} {n:Int} {r:List α} (h:Sj n=some r):Bo prog 345 [.val (.slice none 0 0),O .i64 n] [] (.arr 0 r.length 0 r.length) [.rows 68 3 (r.map eA)] := Akp Aux rfl ⟨_,func345,κ,κ⟩ Tryz.t68 (Tryz.t68.zero.getD .nilFunc) κ κ rfl κ κ δ (of_decide_eq_true κ) h
def Auz:Ren:={f:=λx=>match x with | 4=>346 | n=>n,t:=λx=>match x with | 22=>59 | 25=>75 | 3=>3 | 4=>4 | 9=>9 | 20=>20 | 0=>0 | n=>n,g:=λn=>n}
theorem Au0:Lays8.n4 prog Auz:=by
 constructor
 case f4=>exact Exists.intro "slices.Grow[[]amortcost/api.Atom,amortcost/api.Atom]" ⟨κ,κ⟩
 all_goals first | kernel_rfl | (intro w; kernel_rfl)
theorem Au1 {α:Type} {eA:α->AV} {n:Int} {r:List α} (h:Sj n=some r):Bo prog 346 [.val (.slice none 0 0),O .i64 n] [] (.arr 0 r.length 0 r.length) [.rows 75 3 (r.map eA)] := Akp Au0 rfl ⟨_,func346,κ,κ⟩ Tryz.t75 (Tryz.t75.zero.getD .nilFunc) κ κ rfl κ κ δ (of_decide_eq_true κ) h
end Go.Ab
