/- Contracts of strings.Builder and strconv.Itoa. -/
import Derived.Test.YtohelcameomopaaGreatDoorApTy
import Derived.Test.YtohelcameomopaaGreatDoorApHandB
import Derived.Shelf.Strconv.Itoa4
import Derived.KernelRfl
import Derived.Shelf.Sort.Plain
import Derived.Shelf.SlSortCmp.WholeK
import Derived.Shelf.Spec.SlicesGrow
namespace Go.Ab
open Go Go.Proofs Go.Shelf Go.Proofs.Tryz
set_option maxRecDepth 100000
def Al6:Ren:={f:=λx=>match x with | 171=>187 | 243=>240 | 246=>306 | 283=>349 | 284=>350 | 285=>351 | 286=>352 | 129=>212 | 317=>368 | 318=>369 | 319=>370 | 320=>371 | 337=>382 | 338=>383 | 173=>242 | n=>n,t:=λx=>match x with | 3=>3 | 9=>9 | 2=>2 | 4=>4 | 171=>395 | 0=>0 | 53=>134 | 37=>233 | 5=>5 | 173=>397 | 212=>410 | 51=>135 | 20=>20 | 213=>411 | 46=>194 | 232=>422 | 233=>423 | n=>n,g:=λx=>match x with | 17=>0 | 18=>1 | 19=>2 | n=>n}
theorem Al7:LaysM.n171 prog Al6:=by constructor;constructor;all_goals first | kernel_rfl | (intro w; kernel_rfl)
theorem St.grown {σ:Ax} {F:Ax} {W w:World} (s:St σ ι0 H0 F W w) (k:Nat) (os:Array Obj):St σ ι0 H0 F W (Sort.grow (w.drewN k) os):=by
 have hk:∀(b:Nat) (o:Obj),w.heap[b]? = some o->(Sort.grow (w.drewN k) os).heap[b]? = some o:=by intro b o h;have c:=(Array.getElem?_eq_some_iff.1 h).1;show (w.heap++os)[b]? = _;rw [Array.getElem?_append_left c]; exact h
 exact ⟨λb o h=>hk b o (s.sto b o h),λb o h=>⟨hk b o (s.fra b o h).1,(s.fra b o h).2⟩,λ_=>rfl,(λ_ _ _ f=>by cases f),s.os,s.tape,s.output,s.glo,Nat.le_trans s.drw (Nat.le_add_right _ _)⟩
theorem Al8 {σ:Ax} {ι:B2} {H:Hp} {F:Ax} {W w:World} (s:St σ ι H F W w):Lib.TabIs prog w "internal/strconv.uint64pow10" .u64 Lib.pow10Tab:=by obtain ⟨E,fr,e⟩:=s.glo;have h:=s.sto _ _ e;have g:prog.globalNamed "internal/strconv.uint64pow10" = some 0:=Al7.m17;unfold Lib.TabIs World.var?;rw [g];simp only [Option.bind_some,h]
theorem Vi {σ:Ax} {ι:B2} {H:Hp} {x:AV} {vs:Array Value} (h:Lw σ ι H [x] vs):∃v,vs = #[v]/\Conc σ ι H x v:=by
 obtain ⟨h1,h2⟩:=h;have h1:vs.size=1:=h1;refine ⟨vs[0],?_,h2 0 x _ rfl (by simp [h1])⟩;apply Array.ext
 .simp [h1]
 .intro i hi b;have:i=0:=ω;subst this; rfl
theorem Awe {a0:Int} {r:ByteArray} (h:Nx a0=some r):Au prog 187 [O .i64 a0] (Dz r):=by
 unfold Nx at h;split at h
 .rename_i hc;cases h;refine ⟨⟨_,func187,κ,κ⟩,λσ F W w vs s b=>?_⟩;obtain ⟨v,rfl,c⟩:=Vi b;have c:=c.val_inv;subst c;have:=Any.strconv_Itoa Al7 a0 hc.1 hc.2 w (Al8 s);refine this.mono ?_;rintro e w' ⟨rfl,k,os,rfl⟩;exact ⟨_,σ,rfl,Ax.le_refl σ,s.grown k os,.of_val _⟩
 .cases h
theorem Awf:LaysM.n173 prog Al6:=by constructor;constructor;all_goals first | kernel_rfl | (intro w; kernel_rfl)
theorem Ago {σ:Ax} {ι:B2} {H:Hp} {x y:AV} {vs:Array Value} (h:Lw σ ι H [x,y] vs):∃v u,vs = #[v,u]/\Conc σ ι H x v/\Conc σ ι H y u:=by
 obtain ⟨h1,h2⟩:=h;have h1:vs.size=2:=h1;refine ⟨vs[0],vs[1],?_,h2 0 x _ rfl (by simp [h1]),h2 1 y _ rfl (by simp [h1])⟩;apply Array.ext
 .simp [h1]
 .intro i hi b;rcases (by omega:i=0\/i=1) with h | h
  .subst h; rfl
  .subst h; rfl
theorem Awg {a0 a1:Int} {r:ByteArray} (h:Aau a0 a1=some r):Au prog 242 [O .i64 a0,O .i64 a1] (Dz r):=by
 unfold Aau at h;cases hb:a1==10 with
 | false=>rw [hb] at h; cases h
 | true=>
  rw [hb] at h;have hb:=eq_of_beq hb;subst hb;have h:Nx a0=some r:=h;unfold Nx at h;split at h
  .rename_i hc;cases h;refine ⟨⟨_,func242,κ,κ⟩,λσ F W w vs s b=>?_⟩;obtain ⟨v,u,rfl,c,hu⟩:=Ago b;have c:=c.val_inv;have hu:=hu.val_inv;subst c; subst hu;have:=Any.strconv_FormatInt_10 Awf a0 hc.1 hc.2 w (Al8 s);refine this.mono ?_;rintro e w' ⟨rfl,k,os,rfl⟩;exact ⟨_,σ,rfl,Ax.le_refl σ,s.grown k os,.of_val _⟩
  .cases h
theorem Yk (o:Br) (os:List Br):hp (o::os) 0=o:=rfl
theorem Awh (x:AV) (rest:List Br):B6 prog 238 [.loc 0 0] (.cells 235 [.loc 0 0,x]::rest) (.tup []) (.cells 235 [.loc 0 0,x]::rest):=by
 refine ⟨⟨_,func238,κ,κ⟩,λσ F W w ι vs s f=>?_⟩;obtain ⟨v,rfl,k⟩:=Vi f;obtain ⟨b,hb,k⟩:=k.loc_inv;subst k;have l:=s.obj 0;unfold Cr at l;rw [Yk] at l;obtain ⟨A,C,y,_,_,h3,u,z⟩:=l;rw [hb] at y; cases y;have u:C.size=2:=u;have g:C[0]? = some C[0]:=by simp [u]
 have q:=z 0 (.loc 0 0) C[0] rfl g;obtain ⟨b2,h,j⟩:=q.loc_inv;rw [hb] at h; cases h;have cell:w.cell? ⟨b,0,none⟩=some (.pointer (some ⟨b,0,none⟩)):=by rw [Je h3,g,j]
 refine (Tryz.check_used b w cell).mono ?_;rintro e w' ⟨rfl,rfl⟩;exact ⟨_,σ,ι,rfl,Le.refl _ _ _,s,.tup _ _ rfl (λi c v h1 _=>by cases h1)⟩
theorem Awi (x:AV) (rest:List Br):B6 prog 238 [.loc 0 0] (.cells 235 [.val (.pointer none),x]::rest) (.tup []) (.cells 235 [.loc 0 0,x]::rest):=by
 refine ⟨⟨_,func238,κ,κ⟩,λσ F W w ι vs s j=>?_⟩;obtain ⟨v,rfl,q⟩:=Vi j;obtain ⟨b,hb,q⟩:=q.loc_inv;subst q;have u:=s.obj 0;unfold Cr at u;rw [Yk] at u;obtain ⟨E,C,A,_,_,h3,g,z⟩:=u;rw [hb] at A; cases A;have g:C.size=2:=g;have k:C[0]? = some C[0]:=by simp [g]
 have l:=(z 0 (.val (.pointer none)) C[0] rfl k).val_inv;have cell:w.cell? ⟨b,0,none⟩=some (.pointer none):=by rw [Je h3,k,l]
 refine (Tryz.check_fresh b w cell (by simp [World.shape?,h3,g]) (by simp [World.frozen?,h3])).mono ?_;rintro e w' ⟨rfl,rfl⟩;obtain ⟨s',le⟩:=s.setBox 0 235 [.val (.pointer none),x] [.loc 0 0,x] rfl b hb #[.pointer (some ⟨b,0,none⟩),C[1]] rfl (by
  intro i c v h1 h2
  match i with| 0=>simp at h1 h2; subst h1; subst h2; exact .loc 0 0 b hb| 1=>simp at h1 h2; subst h1; subst h2; exact z 1 x _ rfl (by simp [g])| i+2=>simp at h1)
 have D:A8 (hp (.cells 235 [.val (.pointer none),x]::rest)) 0 (.cells 235 [.loc 0 0,x])=hp (.cells 235 [.loc 0 0,x]::rest):=by funext i;cases i with| zero=>rfl| succ i=>rfl
 have B:w.setCell ⟨b,0,none⟩ (.pointer (some ⟨b,0,none⟩))=w.setRow b #[.pointer (some ⟨b,0,none⟩),C[1]]:=by
  have h:C.setIfInBounds 0 (.pointer (some ⟨b,0,none⟩)) = #[.pointer (some ⟨b,0,none⟩),C[1]]:=by
   apply Array.ext
   .simp [g]
   .intro i hi y
    match i with| 0=>simp| 1=>rw [Array.getElem_setIfInBounds_ne _ δ]; rfl| i+2=>simp at y; omega
  have f:(w.setCell ⟨b,0,none⟩ (.pointer (some ⟨b,0,none⟩))).heap=(w.setRow b #[.pointer (some ⟨b,0,none⟩),C[1]]).heap:=by
   apply Array.ext_getElem?;intro i;simp only [World.setCell,World.setRow,Array.getElem?_modify];split
   .rename_i e; subst e;rw [h3]; simp [h]
   .rfl
  unfold World.setCell World.setRow at f ⊢;simp only at f;rw [f]
 rw [D] at s' le;rw [B];exact ⟨_,σ,ι,rfl,le,s',.tup _ _ rfl (λi c v h1 _=>by cases h1)⟩
theorem Awj {l:List Int} (h:∀x∈l,0<=x/\x<256) {j:Nat} {x:UInt8} (hx:(Eh l)[j]? = some x):l[j]? = some (x.toNat:Int):=by simp only [Eh,List.getElem?_map,Option.map_eq_some_iff] at hx;obtain ⟨y,hy,rfl⟩:=hx;have b:=h y (List.mem_of_getElem? hy);rw [hy];congr 1;have:y.toNat<256:=ω;simp only [UInt8.toNat_ofNat'];omega
theorem St.kill {σ:Ax} {ι:B2} {H:Hp} {F:Ax} {W w:World} (s:St σ ι H F W w) (h:Nat):St σ ι (A8 H h .dead) F W w/\Le σ ι H σ ι (A8 H h .dead):=by
 have le:Le σ ι H σ ι (A8 H h .dead):=by have:=Le.upd (ι:=ι) (H:=H) (Ax.le_refl σ) h (ι h) .dead ⟨λ_ e=>e,(λ_ e=>by cases e),(λ_ k j i e=>by cases e)⟩;rwa [Ho] at this
 obtain ⟨f1,f2⟩:=s.fresh;refine ⟨s.touch h w.heap.size (λ_ _=>rfl) (λx e=>Da _ _ e) le (λ_ _=>rfl) (λ_ _=>rfl) (λo g=>by rw [f1] at g; cases g) ?_ f2 ?_ ?_ rfl rfl rfl,le⟩
 .intro x _ c f;have:=(s.block c f).1;omega
 .intro b c;rw [Co] at c; cases c
 .unfold Cr;rw [Co]; trivial
theorem St.fbox {σ:Ax} {ι:B2} {H:Hp} {F:Ax} {W w:World} (s0:St σ ι H F W w) {T:TypeId} {p x:AV} {s:ByteArray} {b:Nat} {C:Array Value} (f:H 0 = .cells T [p,x]) (hb:ι 0 = .box b) (h3:w.heap[b]? = some (.cells C T (0,0))) (hc:∀v,C[1]? = some v->CC σ (.fb s) v):St σ ι (A8 H 0 (.cells T [p,.fb s])) F W w/\Le σ ι H σ ι (A8 H 0 (.cells T [p,.fb s])):=by
 have g:=s0.obj 0;unfold Cr at g;rw [f] at g;obtain ⟨u,z,k,g1,g2,g3,g4,g5⟩:=g;rw [hb] at k; cases k;rw [h3] at g3; cases g3;have le:Le σ ι H σ ι (A8 H 0 (.cells T [p,.fb s])):=by have:=Le.upd (ι:=ι) (H:=H) (Ax.le_refl σ) 0 (ι 0) (.cells T [p,.fb s]) (by rw [f]; exact ⟨λ_ e=>e,(λ_ e=>by cases e),(λ_ _ _ _ e=>by cases e)⟩);rwa [Ho] at this
 refine ⟨s0.touch 0 b (λ_ _=>rfl) (λx e=>Da _ _ e) le (λx e=>rfl) (λ_ _=>rfl) (λo e=>by rw [g1] at e; cases e) ?_ g2 ?_ ?_ rfl rfl rfl,le⟩
 .intro x e l h;exact e (s0.inj x 0 b l (by rw [f]; rfl) h (by rw [hb]; rfl))
 .intro q _ j;exact .inr ⟨by rw [f]; rfl,j⟩
 .unfold Cr;rw [Co];refine ⟨b,C,hb,g1,g2,h3,by simpa using g4,λi c v x y=>?_⟩
  match i with| 0=>exact (g5 0 c v x y).mono le| 1=>cases x; exact .cc (hc v y)| i+2=>cases x
theorem Awk {p:AV}:B6 prog 189 [.loc 0 0] [.cells 235 [p,.arr 1 0 0 0],.rows 5 1 []] (Dz .empty) [.cells 235 [p,.fb .empty],.dead]:=by
 refine ⟨⟨_,func189,κ,κ⟩,λσ F W w ι vs s z=>?_⟩;obtain ⟨v,rfl,j⟩:=Vi z;obtain ⟨b,hb,j⟩:=j.loc_inv;subst j;have M:=s.obj 0;unfold Cr at M;rw [Yk] at M;obtain ⟨b',C,Y,_,_,h3,B,h5⟩:=M;rw [hb] at Y; cases Y;have B:C.size=2:=B;have hC:C = #[C[0],C[1]]:=by
  apply Array.ext
  .simp [B]
  .intro i hi N
   match i with| 0=>rfl| 1=>rfl| i+2=>simp at N; omega
 have R:=h5 1 (.arr 1 0 0 0) C[1] rfl (by simp [B]);have y:hp [Br.cells 235 [p,.arr 1 0 0 0],.rows 5 1 []] 1 = .rows 5 1 []:=rfl;have c:=R.arr_inv y ψ;have hor:=s.obj 1;unfold Cr at hor;rw [y] at hor;obtain ⟨_,V,hor⟩:=hor;have eH:A8 (A8 (hp [Br.cells 235 [p,.arr 1 0 0 0],.rows 5 1 []]) 1 .dead) 0 (.cells 235 [p,.fb .empty])=hp [Br.cells 235 [p,.fb .empty],.dead]:=by
  funext i
  match i with| 0=>rfl| 1=>rfl| i+2=>rfl
 have go:∀(a q:Option Addr) (cap:Nat) (A:Ax) (k:World),C[1] = .slice a 0 cap->k.heap[b]? = w.heap[b]?->(Builtin.unsafeSliceData_ #[233] 297 #[.slice a 0 cap]).run prog w.drew = .ok (.pointer q) k ->
   Le σ ι (hp [Br.cells 235 [p,.arr 1 0 0 0],.rows 5 1 []]) A ι (hp [Br.cells 235 [p,.arr 1 0 0 0],.rows 5 1 []])->St A ι (hp [Br.cells 235 [p,.arr 1 0 0 0],.rows 5 1 []]) F W k -> Calls prog 189 #[.pointer (some ⟨b,0,none⟩)] w λe w'=>∃v E G,e = .returned v/\Le σ ι (hp [Br.cells 235 [p,.arr 1 0 0 0],.rows 5 1 []]) E G (hp [Br.cells 235 [p,.fb .empty],.dead])/\St E G (hp [Br.cells 235 [p,.fb .empty],.dead]) F W w'/\Conc E G (hp [Br.cells 235 [p,.fb .empty],.dead]) (Dz .empty) v:=by intro a q cap A k f x S le I;have h:w.heap[b]? = some (.cells #[C[0],.slice a 0 cap] 235 (0,0)):=(by rw [h3]; congr 1; rw [<-f,<-hC]);refine (Tryz.builder_str0 b cap C[0] a q w k h (x.trans h) S).mono ?_;rintro e w' ⟨rfl,rfl⟩;obtain ⟨Z,J⟩:=I.kill 1;obtain ⟨U,u⟩:=Z.fbox (b:=b) (C:=#[C[0],.slice a 0 cap]) (s:=.empty) (by rfl) hb ((x.trans h)) (λv j=>by simp at j; subst j; exact .fbn _ _ _ rfl);rw [eH] at U u;exact ⟨_,A,ι,rfl,(le.trans J).trans u,U,.of_val _⟩
 rcases hor with ⟨hi,_⟩ | ⟨g,l,D,hg,g1,g2,g3,g4,g5,g6⟩
 .unfold F1 at c;rw [hi] at c;exact go none none 0 σ w.drew c.1 rfl rfl (Le.refl _ _ _) (s.drew _)
 .unfold F1 at c;rw [hg] at c;simp only [Nat.zero_mul,Nat.zero_add,Nat.sub_zero] at c;obtain ⟨_,f⟩:=c;by_cases ht:l=0
  .subst ht;obtain ⟨I,L⟩:=(s.drew (w.drawn+1)).newFrozen (.view ⟨g,0,none⟩ 5);have X:=(Array.getElem?_eq_some_iff.1 h3).1;refine go _ _ 0 _ (w.drew.alloc (.view ⟨g,0,none⟩ 5)) f ?_ (Lib.run_unsafeSliceData_zero _ _ _ 5 Go.Proofs.Tryz.underlying297 _ _ (5,D.size) (by have:w.drew.heap[g]? = some (.cells D 5 (0,0)):=g3;simp [World.shape?,this])) L I;show (w.heap.push _)[b]? = _;rw [Array.getElem?_push,if_neg ω]
  .exact go _ _ l σ w.drew f rfl (Lib.run_unsafeSliceData_row _ _ _ _ _ _ ht) (Le.refl _ _ _) (s.drew _)
theorem Al9 {p:AV} {l:List Int} {r:ByteArray} (h:Wn l=some r):B6 prog 189 [.loc 0 0] [.cells 235 [p,.arr 1 l.length 0 l.length],.rows 5 1 (List.map (O .u8) l)] (Dz r) [.cells 235 [p,.fb r],.dead]:=by
 unfold Wn at h;split at h
 .rename_i aa;cases h;by_cases u:l = []
  .subst u; exact Awk
  refine ⟨⟨_,func189,κ,κ⟩,λσ F W w ι vs s S=>?_⟩;obtain ⟨v,rfl,A⟩:=Vi S;obtain ⟨b,hb,A⟩:=A.loc_inv;subst A;have B:=s.obj 0;unfold Cr at B;rw [Yk] at B;obtain ⟨b',C,e1,_,_,h3,Y,h5⟩:=B;rw [hb] at e1; cases e1;have Y:C.size=2:=Y;have hC:C = #[C[0],C[1]]:=by
   apply Array.ext
   .simp [Y]
   .intro i hi a7
    match i with| 0=>rfl| 1=>rfl| i+2=>simp at a7; omega
  have a8:=h5 1 (.arr 1 l.length 0 l.length) C[1] rfl (by simp [Y]);have N:hp [Br.cells 235 [p,.arr 1 l.length 0 l.length],.rows 5 1 (List.map (O .u8) l)] 1 = .rows 5 1 (List.map (O .u8) l):=rfl;have y:=a8.arr_inv N ψ;have hor:=s.obj 1;unfold Cr at hor;rw [N] at hor;obtain ⟨_,M,hor⟩:=hor;rw [List.length_map] at M;rcases hor with ⟨_,J⟩ | ⟨g,q,D,hg,g1,g2,g3,g4,g5,g6⟩
  .exact (u (by simpa using J)).elim
  .rw [List.length_map] at g5;unfold F1 at y;rw [hg] at y;simp only [Nat.zero_mul,Nat.zero_add,Nat.sub_zero] at y;obtain ⟨ht,I⟩:=y;have c:(Eh l).length=l.length:=(by simp [Eh]);have f:∀(j:Nat) (x:UInt8),(Eh l)[j]? = some x->D[j]? = some (Value.int .u8 x.toNat):=(by intro j x hx;have hj:=Awj aa hx;obtain ⟨gg,q1,q2,q3⟩:=g6;have G:(List.map (O .u8) l)[j]? = some (O .u8 x.toNat):=(by rw [List.getElem?_map,hj]; rfl);have a1:j<(List.map (O .u8) l).length:=(List.getElem?_eq_some_iff.1 G).1;have q4:=q3 j 0 a1 ω;have q5:=(q2 j _ 0 _ G rfl).1;have:gg j 0=Value.int .u8 x.toNat:=(by generalize gg j 0=z at q5;cases q5; rfl);rw [this] at q4;simpa using q4);have U:w.heap[b]? = some (.cells #[C[0],.slice (some ⟨g,0,none⟩) (Eh l).length q] 235 (0,0)):=(by rw [h3]; congr 1; rw [c];have:C[1] = .slice (some ⟨g,0,none⟩) l.length q:=I;rw [<-this,<-hC]);have V:l.length<=D.size:=(by rw [g4]; omega);have call:=Tryz.builder_str b g q C[0] D (Eh l) w (by intro e; apply u; rw [<-List.length_eq_zero_iff,<-c,e]; rfl) U g3 (by rw [c]; exact g5) (by rw [c]; exact V) (by rw [c]; omega) f;refine call.mono ?_;rintro e w' ⟨rfl,rfl⟩;have L:(Eh l).length≠0:=(by rw [c]; simpa using u);have a6:σ.le (A8 σ g (some (.cells D 5 (0,(Eh l).length)))):=(by intro b' o' hb';rw [Da _ _ (by intro e; subst e; rw [g1] at hb'; cases hb')]; exact hb');have Z:(w.drew.freeze ⟨g,0,none⟩ (Eh l).length).heap[g]? = some (.cells D 5 (0,(Eh l).length)):=(by unfold World.freeze;rw [if_neg L];simp only [Array.getElem?_modify,if_true];have:w.drew.heap[g]? = some (.cells D 5 (0,0)):=g3;rw [this];simp);have R:∀b,b≠g->(w.drew.freeze ⟨g,0,none⟩ (Eh l).length).heap[b]? = w.heap[b]?:=by
    intro b hb;unfold World.freeze;split
    .rfl
    .simp only [Array.getElem?_modify];rw [if_neg (Ne.symm hb)]; rfl
   have le:Le σ ι (hp [Br.cells 235 [p,.arr 1 l.length 0 l.length],.rows 5 1 (List.map (O .u8) l)]) (A8 σ g (some (.cells D 5 (0,(Eh l).length)))) ι (A8 (hp [Br.cells 235 [p,.arr 1 l.length 0 l.length],.rows 5 1 (List.map (O .u8) l)]) 1 .dead):=(by have:=Le.upd (ι:=ι) (H:=hp [Br.cells 235 [p,.arr 1 l.length 0 l.length],.rows 5 1 (List.map (O .u8) l)]) a6 1 (ι 1) .dead ⟨λ_ e=>e,(λ_ e=>by cases e),(λ_ E1 ae ad e=>by cases e)⟩;rwa [Ho] at this);have eH:A8 (A8 (hp [Br.cells 235 [p,.arr 1 l.length 0 l.length],.rows 5 1 (List.map (O .u8) l)]) 1 .dead) 0 (.cells 235 [p,.fb ⟨(Eh l).toArray⟩])=hp [Br.cells 235 [p,.fb ⟨(Eh l).toArray⟩],.dead]:=by
    funext i
    match i with| 0=>rfl| 1=>rfl| i+2=>rfl
   have ac:b≠g:=(by intro e;have:=s.inj 0 1 g rfl rfl (by rw [hb,e]; rfl) (by rw [hg]; rfl);cases this);have s2:St (A8 σ g (some (.cells D 5 (0,(Eh l).length)))) ι (A8 (hp [Br.cells 235 [p,.arr 1 l.length 0 l.length],.rows 5 1 (List.map (O .u8) l)]) 1 .dead) F W (w.drew.freeze ⟨g,0,none⟩ (Eh l).length):=by
    refine s.touch (hdrw:=by unfold World.freeze; split <;> exact Nat.le_succ _) 1 g (λ_ _=>rfl) (λx e=>Da _ _ e) le R (λx e=>Da _ _ e) (λo B=>by rw [Co] at B; cases B; exact Z) ?_ g2 ?_ ?_ ?_ ?_ ?_
    .intro x hx X ab;exact hx (s.inj x 1 g X rfl ab (by rw [hg]; rfl))
    .intro b0 X;rw [Co] at X; cases X
    .unfold Cr;rw [Co]; trivial
    .unfold World.freeze; split <;> rfl
    .unfold World.freeze; split <;> rfl
    .unfold World.freeze; split <;> rfl
   obtain ⟨s3,E⟩:=s2.fbox (b:=b) (C:=#[C[0],.slice (some ⟨g,0,none⟩) (Eh l).length q]) (s:=⟨(Eh l).toArray⟩) (by rfl) hb ((R b ac).trans U) (λv A=>by simp only [List.getElem?_toArray,List.getElem?_cons_succ,List.getElem?_cons_zero,Option.some.injEq] at A;subst A;have k:(ByteArray.mk (Eh l).toArray).size=(Eh l).length:=(by simp [ByteArray.size]);rw [<-k];refine .fb _ g q D (by rw [Co,k]) (by rw [k]; exact L) (by rw [k,c]; omega) (by rw [k,c]; exact V) (by rw [k,c]; omega) (λj x hx=>f j x (by simpa using hx)));rw [eH] at s3 E;exact ⟨_,_,ι,rfl,le.trans E,s3,.of_val _⟩
 .cases h
theorem Ama {p:AV} {f r:ByteArray} (h:(bif Nat.beq f.size 0 then none else some f)=some r):B6 prog 189 [.loc 0 0] [.cells 235 [p,.fb f]] (Dz r) [.cells 235 [p,.fb f]]:=by
 have q:r.size≠0/\f=r:=by cases hb:Nat.beq f.size 0 with| true=>rw [hb] at h; cases h| false=>rw [hb] at h; cases h; exact ⟨(λe=>by rw [e] at hb; exact Bool.noConfusion hb),rfl⟩
 clear h;obtain ⟨q,E⟩:=q;subst E;refine ⟨⟨_,func189,κ,κ⟩,λσ F W w ι vs s y=>?_⟩;obtain ⟨v,rfl,B⟩:=Vi y;obtain ⟨b,hb,B⟩:=B.loc_inv;subst B;have G:=s.obj 0;unfold Cr at G;rw [Yk] at G;obtain ⟨Z,C,R,_,_,h3,A,V⟩:=G;rw [hb] at R; cases R;have A:C.size=2:=A;have M:C = #[C[0],C[1]]:=by
  apply Array.ext
  .simp [A]
  .intro i hi I
   match i with| 0=>rfl| 1=>rfl| i+2=>simp at I; omega
 have l:=V 1 (.fb f) C[1] rfl (by simp [A]);generalize C[1]=u at M l;generalize C[0]=S at M;subst M;cases l with
 | cc l=>
  cases l with
  | fbn _ a cap h0=>exact (q h0).elim
  | fb _ g cap D U h0 z L Y J=>
   have N:=s.sto _ _ U;have k:f.data.toList.length=f.size:=(by rw [Array.length_toList]; rfl);have call:=Tryz.builder_str b g cap S D f.data.toList w (by intro e; rw [e] at k; exact h0 k.symm) (by rw [k]; exact h3) N (by rw [k]; exact z) (by rw [k]; exact L) (by rw [k]; omega) (λj x hx=>J j x (by simpa using hx));refine call.mono ?_;rintro e w' ⟨rfl,rfl⟩;have hw:w.drew.freeze ⟨g,0,none⟩ f.data.toList.length=w.drew:=by
    unfold World.freeze;split
    .rfl
    .have:w.drew.heap.modify g (λo=>match o with | .cells c elem (lo,hi)=>.cells c elem (if lo==hi then (0,0+f.data.toList.length) else (min lo 0,max hi (0+f.data.toList.length))) | o=>o)=w.drew.heap:=by
      apply Array.ext_getElem?;intro i;rw [Array.getElem?_modify];split
      .rename_i e;subst e;have:w.drew.heap[g]? = some (.cells D 5 (0,f.size)):=N;rw [this];simp [k,Ne.symm h0]
      .rfl
     exact congrArg (λh=>{w.drew with heap:=h}) this
   rw [hw];have X:(⟨f.data.toList.toArray⟩:ByteArray)=f:=ψ;rw [X];exact ⟨_,σ,ι,rfl,Le.refl _ _ _,s.drew _,.of_val _⟩
end Go.Ab
namespace Go.Ab
open Go Go.Proofs Go.Proofs.Tryz
set_option linter.unusedVariables false
class OK {α:Type} (o:Option α) (G:outParam (α->Prop)):Prop where
 ok:∀{r:α},o=some r->G r
theorem okz {α:Type} {G:α->Prop}:OK (none:Option α) G:=⟨λh=>by cases h⟩
section
variable {P:Program} {C:Cfg} {Qn:Nat->B1->Hp->Prop} {Qe:Nat->Nat->B1->Hp->Prop} {Qr:Nat->B1->Hp->Prop} {n:Nat} {e:B1} {H:Hp} {β:Type} {r:β}
variable {T:Cx} {an:Nat->Ann} {nl:Nat->List (Nat×Nat)} {ops:Array Oper} {o:Oper} {os:List Oper} {acc:Hs} {K:Nat->B1->Hp->Hs->Prop}
theorem Fq {p:Nat×Bool} {s:Nat} {b:Bool} {m m':Option β} (h:(bif b then m else m')=some r) (h1:b=true->m=some r->E4 (Et P T an nl ops (o::os) n (A8 e s (.val (.bool true))) H acc K)) (h2:b=false->m'=some r->E4 (Et P T an nl ops (o::os) n (A8 e s (.val (.bool false))) H acc K)) (hg:o.guard=some p:=by exact rfl) (hs:(ops[p.1]?).bind (·.dst)=some s:=by exact rfl) (hb:e s = .val (.bool b):=by exact rfl):E4 (Et P T an nl ops (o::os) n e H acc K):=Avv h h1 h2 hb
theorem nw {c:Code} (k:wc P C c Qn Qe Qr n e H):E4 (wc P C c Qn Qe Qr n e H):=.mk k
theorem Cg {S E:Type} {o:S⊕E} {J:E->Option β} {x:E} (h:some (Sum.inr x)=some o) (hx:∀x,Sum.inr x=o->J x=some r:=by assumption):J x=some r:=hx x (Option.some.inj h)
theorem lpj {S:Type} {o:S} {J:S->Option β} {x:S} (h:some x=some o) (hx:∀y,y=o->J y=some r:=by assumption):J x=some r:=hx x (Option.some.inj h)
theorem lpn {S E:Type} {o:S⊕E} {s':S} {K:Nat->B1->Hp->Prop} {iv:S->List (Nat×AV)} {hv:S->List (Nat×Br)} {inv:S->Prop} {n0:Nat} {H0:Hp} (h:some (Sum.inl s')=some o) (hn:∀s' n' e' H',Sum.inl s'=o->Gm e' (iv s')->Gn H' (Cq H0 (hv s')) n0 n0->inv s'->K n' e' H':=by assumption) (hs:Gm e (iv s'):=by (repeat refine ⟨rfl,?_⟩); exact trivial) (hh:Gn H (Cq H0 (hv s')) n0 n0:=by (repeat refine ⟨⟨rfl,rfl⟩,?_⟩); exact trivial) (hi:inv s':=by first | trivial | exact rfl | ((repeat refine El ?_ _ _); first | exact rfl | assumption)):K n e H:=hn s' n e H (Option.some.inj h) hs hh hi
theorem jnn {S E:Type} {o x:E} {s:S} {J:S->Prop} {K:Nat->B1->Hp->Prop} {iv:S->List (Nat×AV)} {hv:S->List (Nat×Br)} {n0:Nat} {H0:Hp} (h:some x=some o) (hn:∀s n' e' H',J s->Gm e' (iv s)->Gn H' (Cq H0 (hv s)) n0 n0->K n' e' H':=by assumption) (hJ:J s:=by exact Option.some.inj h) (hs:Gm e (iv s):=by (repeat refine ⟨rfl,?_⟩); exact trivial) (hh:Gn H (Cq H0 (hv s)) n0 n0:=by (repeat refine ⟨⟨rfl,rfl⟩,?_⟩); exact trivial):K n e H:=hn s n e H hJ hs hh
theorem Bd {α:Type} {o:Option α} {m:α->Option β} {f:FuncId} {args:List AV} {G:α->Prop} {ra:α->AV} {K:Eff->Nat->Prop} (h:o.bind m=some r) [i:OK o G] (k:∀v,m v=some r->K ⟨ra v,[],[]⟩ n) (hG:∀v,G v->Au P f args (ra v):=by exact λ_ h=>h) (hf:args.all AV.free=true:=by exact rfl):Gc P n H f args K := Df h λv hv h=>Gc.mk _ (hG v (i.ok hv)) hf (k v h)
theorem Amb {α:Type} {o:Option α} {m:α->Option β} {f:FuncId} {args args':List AV} {G:α->Prop} {ra:α->AV} {K:Eff->Nat->Prop} (h:o.bind m=some r) [i:OK o G] (k:∀v,m v=some r->K ⟨ra v,[],[]⟩ n) (hG:∀v,G v->Au P f args' (ra v):=by exact λ_ h=>h) (hs:O0 args args':=by (repeat first | refine ⟨Sub.refl _,?_⟩ | refine ⟨Sub.nil _,?_⟩); exact trivial) (hf:args.all AV.free=true:=by exact rfl):Gc P n H f args K := Df h λv hv h=>Gc.mk _ (Au.sub (hG v (i.ok hv)) hs (Sub.refl _)) hf (k v h)
theorem Bc {α:Type} {o:Option α} {m:α->Option β} {f:FuncId} {args largs:List AV} {G:α->Prop} {ra:α->AV} {hs:List Br} {hs':α->List Br} {K:Eff->Nat->Prop} (l:List Nat) (h:o.bind m=some r) [i:OK o G] (k:∀v,m v=some r->K ⟨ren (Eb n l) (ra v),wrs (Eb n l) 0 hs++Ci (Eb n l) l.length ((hs' v).length-l.length),wrs (Eb n l) 0 (hs' v)⟩ (n+((hs' v).length-l.length))) (hG:∀v,G v->B6 P f largs hs (ra v) (hs' v):=by exact λ_ h=>h) (ha:largs.map (ren (Eb n l))=args:=by exact rfl) (ok:∀v,Tm n l largs hs (ra v) (hs' v)=true:=by exact λ_=>rfl) (hh:Qx H (wrs (Eb n l) 0 hs):=by (repeat refine ⟨rfl,?_⟩); exact trivial):Gc P n H f args K := Df h λv hv h=>Gc.act l largs hs (ra v) (hs' v) (hG v (i.ok hv)) ha (ok v) hh (k v h)
theorem Bw {α:Type} {l:List α} {f:α->AV} {ys:List AV} {i:Int} {m:α->Option β} {K:Nat->AV->Prop} (h:(Ae l i).bind m=some r) (k:∀(n:Nat) (x:α),i=n->l[n]? = some x->m x=some r->K n (f x)) (he:ys=l.map f:=by first | exact rfl | exact J8 _ | exact Mh _):Wf ys i K:=Ald he h k
theorem Hc {α:Type} {l:List α} {f:α->AV} {ys:List AV} {i:Int} {m:α->Option β} {K:Nat->Prop} {len kk:Nat} (h:(Ae l i).bind m=some r) (k:∀(n:Nat) (x:α),i=n->l[n]? = some x->m x=some r->K n) (he:ys=l.map f:=by first | exact rfl | exact J8 _ | exact Mh _) (hl:len=l.length:=by first | exact rfl | assumption | exact Jl (by assumption) | ((repeat refine El ?_ _ _); first | exact rfl | assumption)) (hk:kk=l.length:=by first | exact rfl | assumption | exact Jl (by assumption) | ((repeat refine El ?_ _ _); first | exact rfl | assumption)):Qy len kk ys i K:=Avw he hl hk h k
theorem Hx {α:Type} {l:List α} {f:α->AV} {ys:List AV} {i:Int} {m:α->Option β} {K:Nat->Prop} {off len kk:Nat} (h:(Ep l off len i).bind m=some r) (k:∀(n:Nat) (x:α),i=n->l[off+n]? = some x->m x=some r->K n) (he:ys=l.map f:=by first | exact rfl | exact J8 _ | exact Mh _) (hk:kk=l.length:=by first | exact rfl | assumption | exact Jl (by assumption) | ((repeat refine El ?_ _ _); first | exact rfl | assumption)):Qy len kk ys i K:=Avx he hk h k
theorem P0 {α:Type} {l:List α} {f:α->AV} {ys:List AV} {K:Int->Prop} (k:K (l.length:Int)) (he:ys=l.map f:=by first | exact rfl | exact J8 _ | exact Mh _):Ly ys K:=Alh he k
theorem P1 {α:Type} {l:List α} {f:α->AV} {ys:List AV} {kk:Nat} {K:Prop} (k:K) (he:ys=l.map f:=by first | exact rfl | exact J8 _ | exact Mh _) (hk:kk=l.length:=by first | exact rfl | assumption | exact Jl (by assumption) | ((repeat refine El ?_ _ _); first | exact rfl | assumption)):F7 kk ys K:=Av4 he hk k
theorem P2 {K:Prop} (k:K):F7 0 [] K:=.mk rfl k
theorem P3 {α:Type} {l:List α} {f:α->AV} {ys:List AV} {n i kk:Nat} {x:α} {K:AV->Prop} (k:K (f x)) (he:ys=l.map f:=by first | exact rfl | exact J8 _ | exact Mh _) (hk:kk=l.length:=by first | exact rfl | assumption | exact Jl (by assumption) | ((repeat refine El ?_ _ _); first | exact rfl | assumption)) (hi:i=n/\l[n]? = some x:=by first | exact ⟨Nat.zero_add _,by assumption⟩ | exact ⟨rfl,by assumption⟩):K9 kk i ys K:=Avy he hk hi.1 hi.2 k
theorem Amc {α:Type} {l:List α} {f:α->AV} {ys:List AV} {n i:Nat} {j:Int} {x:α} {p:AV} {K:List AV->Prop} (k:K ((B9 l j x).map f)) (he:ys=l.map f:=by first | exact rfl | exact J8 _ | exact Mh _) (hp:p=f x:=by exact rfl) (hi:i=n/\j=(n:Int):=by first | exact ⟨Nat.zero_add _,by assumption⟩ | exact ⟨rfl,by assumption⟩ | exact ⟨rfl,Rb _ (by assumption)⟩):Wg ys i p K:=G1 he hp hi.1 hi.2 k
theorem J9 {α:Type} {l ys:List α} {f:α->AV} {xs zs:List AV} {b kk len:Nat} {m:List α->Option β} {K:List AV->Nat->Prop} {KP:List AV->Nat->Nat->Prop} (h:(Ca b l ys).bind m=some r) (k:∀o:List α,m o=some r->K (o.map f) o.length) (he:xs=l.map f/\zs=ys.map f:=by first | exact ⟨rfl,rfl⟩ | (refine ⟨?_,?_⟩; rotate_left; exact rfl; exact rfl)) (hk:kk=l.length:=by first | exact rfl | assumption | exact Jl (by assumption) | ((repeat refine El ?_ _ _); first | exact rfl | assumption)) (hl:len=l.length:=by first | exact rfl | assumption | exact Jl (by assumption) | ((repeat refine El ?_ _ _); first | exact rfl | assumption)):Lx xs zs kk len b K KP:=Afq he.1 he.2 hk hl h k
theorem Amd {l:List Int} {s:ByteArray} {xs:List AV} {b kk len:Nat} {m:List Int->Option β} {K:List AV->Nat->Prop} {KP:List AV->Nat->Nat->Prop} (h:(Ca b l (L3 s)).bind m=some r) (k:∀o:List Int,m o=some r->K (o.map λn=>.val (.int .u8 n)) o.length) (he:xs=l.map λn=>.val (.int .u8 n):=by exact rfl) (hk:kk=l.length:=by first | exact rfl | assumption | exact Jl (by assumption) | ((repeat refine El ?_ _ _); first | exact rfl | assumption)) (hl:len=l.length:=by first | exact rfl | assumption | exact Jl (by assumption) | ((repeat refine El ?_ _ _); first | exact rfl | assumption)):Lx xs (Ir s) kk len b K KP:=Av0 he hk hl h k
class GL {α:Type} (g:List α->List AV) (f:outParam (α->AV)):Prop where
 eq:∀l,g l=l.map f
instance:GL Bq Ei:=⟨J8⟩
instance:GL I8 Gv:=⟨Mh⟩
theorem Ame {α:Type} {g:List α->List AV} {f:α->AV} [i:GL g f] {l ys:List α} {zs:List AV} {b kk len:Nat} {m:List α->Option β} {K:List AV->Nat->Prop} {KP:List AV->Nat->Nat->Prop} (h:(Ca b l ys).bind m=some r) (k:∀o:List α,m o=some r->K (g o) o.length) (hz:zs=ys.map f:=by first | exact rfl | exact GL.eq _) (hk:kk=l.length:=by first | exact rfl | assumption | exact Jl (by assumption) | ((repeat refine El ?_ _ _); first | exact rfl | assumption)) (hl:len=l.length:=by first | exact rfl | assumption | exact Jl (by assumption) | ((repeat refine El ?_ _ _); first | exact rfl | assumption)):Lx (g l) zs kk len b K KP:=Av1 i.eq (i.eq l) hz hk hl h k
theorem Agp {α:Type} {ys:List α} {f:α->AV} {zs:List AV} {b:Nat} {m:List α->Option β} {K:List AV->Nat->Prop} (h:(Ca b [] ys).bind m=some r) (k:∀o:List α,m o=some r->K (o.map f) o.length) (hz:zs=ys.map f:=by exact rfl):Q2 zs b K:=Afr hz h k
theorem Amf {α:Type} {g:List α->List AV} {f:α->AV} [i:GL g f] {ys:List α} {zs:List AV} {b:Nat} {m:List α->Option β} {K:List AV->Nat->Prop} (h:(Ca b [] ys).bind m=some r) (k:∀o:List α,m o=some r->K (g o) o.length) (hz:zs=g ys:=by exact rfl):Q2 zs b K:=Av2 i.eq (hz.trans (i.eq ys)) h k
theorem Hk {α:Type} {z:α} {f:α->AV} {za:AV} {len cap:Int} {b:Nat} {m:List α->Option β} {K:Nat->List AV->Prop} (h:(Fj b len cap z).bind m=some r) (k:∀o:List α,m o=some r->K o.length (o.map f)) (hz:za=f z:=by first | exact (rfl:_=O _ _) | exact (rfl:_=Ap _) | exact rfl):Tn len cap b za K:=Av3 hz h k
theorem Mi {α:Type} {l:List α} {f:α->AV} {ys:List AV} {lo hi:Int} {m:List α->Option β} {K:List AV->Prop} (h:(Fy l lo hi).bind m=some r) (k:∀l':List α,m l'=some r->K (l'.map f)) (he:ys=l.map f:=by first | exact rfl | exact J8 _ | exact Mh _):Qz ys lo hi K:=Alg he h k
theorem Aby {α:Type} {l:List α} {f:α->AV} {ys:List AV} {lo:Int} {m:List α->Option β} {K:List AV->Prop} (h:(Fy l lo l.length).bind m=some r) (k:∀l':List α,m l'=some r->K (l'.map f)) (he:ys=l.map f:=by first | exact rfl | exact J8 _ | exact Mh _):Qz ys lo ys.length K:=Avz he h k
theorem Fm {S E:Type} {step:S->Option (S⊕E)} {s0:S} {J:E->Option β} {b:Code} (h:(Al step s0).bind J=some r) (iv:S->List (Nat×AV)) (hv:S->List (Nat×Br)) (inv:S->Prop) (body:∀(s:S) (u:Nat->Value) (K:Nat->B1->Hp->Prop) (o:S⊕E),step s=some o->(∀x,.inr x=o->J x=some r)->(∀s' n' e' H',.inl s'=o->Gm e' (iv s')->Gn H' (Cq H (hv s')) n n->inv s'->K n' e' H')->inv s -> wc P C b K Qe Qr n (J2 (Fb b) e u (iv s)) (Cq H (hv s))) (hb:∀s,Kq n (iv s) (hv s)=true:=by exact λ_=>rfl) (hs:Gm e (iv s0):=by (repeat refine ⟨rfl,?_⟩); exact trivial) (hh:Gn H (Cq H (hv s0)) n n:=by (repeat refine ⟨⟨rfl,rfl⟩,?_⟩); exact trivial) (h0:inv s0:=by first | exact rfl | assumption | exact Jl (by assumption) | ((repeat refine El ?_ _ _); first | exact rfl | assumption)):wc P C (.loop b) Qn Qe Qr n e H:=Alo h iv hv inv hb hs hh h0 body
theorem Ay {S E:Type} {step:S->Option (S⊕E)} {s0:S} {J:E->Option β} {b:Code} (h:(Al step s0).bind J=some r) (iv:S->List (Nat×AV)) (hv:S->List (Nat×Br)) (body:∀(s:S) (u:Nat->Value) (K:Nat->B1->Hp->Prop) (o:S⊕E),step s=some o->(∀x,.inr x=o->J x=some r)->(∀s' n' e' H',.inl s'=o->Gm e' (iv s')->Gn H' (Cq H (hv s')) n n->True->K n' e' H') -> wc P C b K Qe Qr n (J2 (Fb b) e u (iv s)) (Cq H (hv s))) (hb:∀s,Kq n (iv s) (hv s)=true:=by exact λ_=>rfl) (hs:Gm e (iv s0):=by (repeat refine ⟨rfl,?_⟩); exact trivial) (hh:Gn H (Cq H (hv s0)) n n:=by (repeat refine ⟨⟨rfl,rfl⟩,?_⟩); exact trivial):wc P C (.loop b) Qn Qe Qr n e H:=Alo h iv hv (λ_=>True) hb hs hh trivial λs u K o h1 h2 h3 _=>body s u K o h1 h2 h3
theorem Abz {S S':Type} {c:Code} {o:Option S'} {m:S'->Option β} (inj:S->S') (h:o.bind m=some r) (iv:S->List (Nat×AV)) (hv:S->List (Nat×Br)) (k1:∀x,o=some x->∀(K:Nat->B1->Hp->Prop),(∀s n' e' H',inj s=x->Gm e' (iv s)->Gn H' (Cq H (hv s)) n n->K n' e' H')->(∀y,y=x->m y=some r)->wc P C c K Qe Qr n e H) (k2:∀(s:S) (u:Nat->Value),m (inj s)=some r->Qn n (J2 (Fb c) e u (iv s)) (Cq H (hv s))) (hb:∀s,Kq n (iv s) (hv s)=true:=by exact λ_=>rfl):wc P C c Qn Qe Qr n e H := Mz h λx hx hj=>J3 (λs=>inj s=x) iv hv hb (λK hK=>k1 x hx K hK hj) λs u hs=>k2 s u (hj _ hs)
theorem Bs {S:Type} {c:Code} {o:Option S} {m:S->Option β} (h:o.bind m=some r) (iv:S->List (Nat×AV)) (hv:S->List (Nat×Br)) (k1:∀x,o=some x->∀(K:Nat->B1->Hp->Prop),(∀s n' e' H',s=x->Gm e' (iv s)->Gn H' (Cq H (hv s)) n n->K n' e' H')->(∀y,y=x->m y=some r)->wc P C c K Qe Qr n e H) (k2:∀(s:S) (u:Nat->Value),m s=some r->Qn n (J2 (Fb c) e u (iv s)) (Cq H (hv s))) (hb:∀s,Kq n (iv s) (hv s)=true:=by exact λ_=>rfl):wc P C c Qn Qe Qr n e H:=Abz (λs=>s) h iv hv k1 k2 hb
abbrev C0:Cfg:={T:=Bx,an:=λ_=>.ask}
theorem pw {f:FuncId} {fn:Func} {c:Code} {args:List AV} {r:AV} (C:Cfg) (hf:prog.funcs[f]? = some fn) (hv:wc prog C c (λ_ e H=>Q5 C.T fn.results.toList (· = r) e H) (λ_ _ _ _=>False) (λ_ e H=>Q5 C.T fn.results.toList (· = r) e H) 0 (Tu args) H0) (hT:C.T=Bx:=by exact rfl) (hb:fn.body=some c:=by exact rfl) (hname:(fn.name == "runtime.NumGoroutine")=false:=by kernel_rfl) (hok:Tv fn c args.length=true:=by kernel_rfl) (hfree:r.free=true:=by exact rfl):Au prog f args r:=Av5 (by rw [hT]; exact Alr) Wk hf hb hname hok hfree hv
theorem aw {f:FuncId} {fn:Func} {c:Code} {args:List AV} {r:AV} {hs hs':List Br} (C:Cfg) (fz:Bool) (hf:prog.funcs[f]? = some fn) (hv:wc prog C c (λ_ e H=>Q8 C.T fz fn.results.toList r hs' e H) (λ_ _ _ _=>False) (λ_ e H=>Q8 C.T fz fn.results.toList r hs' e H) hs.length (Tu args) (hp hs)) (hT:C.T=Bx:=by exact rfl) (hb:fn.body=some c:=by exact rfl) (hname:(fn.name == "runtime.NumGoroutine")=false:=by kernel_rfl) (hok:Tv fn c args.length=true:=by kernel_rfl) (hok':Afi hs r hs'=true:=by exact rfl):B6 prog f args hs r hs':=Av6 fz (by rw [hT]; exact Alr) Wk hf hb hname hok hok' hv
end
theorem opk {P:Program} {T:Cx} {an:Nat->Ann} {nl:Nat->List (Nat×Nat)} {o:Oper} {n:Nat} {e:B1} {H:Hp} {acc:Hs} {K:Nat->B1->Hp->Hs->Prop} (k:opK P T an nl o n e H acc K):opK P T an nl o n e H acc K:=k
theorem cnd {t:Bool} {A B:Prop} (k:bif t then A else B):bif t then A else B:=k
structure Hd (Q:Prop):Prop where
 get:Q
theorem Z {P Q:Prop} (k:Q) (h:Hd Q->P:=by
  intro q
  repeat first
    | ((with_reducible show E4 (Et _ _ _ _ _ (_::_) _ _ _ _ _)); (first | refine nx ?_ | refine O2 ?_ | refine O1 ?_))
    | ((with_reducible refine opk ?_); conv=>whnf
       first
      | ((with_reducible show E4 _); refine nw ?_)
      | ((with_reducible show Ha _ _ _); refine Ha.mk _ rfl ?_)
      | ((with_reducible show Ly _ _); refine P0 ?_)
      | ((with_reducible show K9 _ _ _ _); refine P3 ?_)
      | ((with_reducible show F7 _ _ _); (first | refine P1 ?_ | refine P2 ?_)))
    | ((with_reducible show E4 (Et _ _ _ _ _ [] _ _ _ _ _)); refine Lf ?_)
    | ((with_reducible show E4 (wc _ _ _ _ _ _ _ _ _)); refine nw ?_)
    | with_reducible refine Aq ?_
    | with_reducible refine Bu ?_
    | with_reducible refine Afv ?_
    | with_reducible refine Hu ?_
    | with_reducible refine Jm ?_
    | with_reducible refine E5 ?_
    | with_reducible refine All ?_
    | with_reducible refine Afx ?_
    | with_reducible refine Afw ?_
    | ((with_reducible refine cnd ?_); first | refine E3 rfl ?_ | refine Afd rfl ?_)
    | ((with_reducible show L2 _ _ _); refine L2.mk κ ?_)
    | ((with_reducible show wc _ _ (.cond _ _ _) _ _ _ _ _ _); first | refine Aax ?_ | refine O7 ?_)
    | refine nw ?_
    | refine nx ?_
    | refine Lf ?_
    | refine O2 ?_
    | refine O1 ?_
    | (conv=>whnf
       first
      | ((with_reducible show E4 _); refine nw ?_)
      | ((with_reducible show Ha _ _ _); refine Ha.mk _ rfl ?_)
      | ((with_reducible show Ly _ _); refine P0 ?_)
      | ((with_reducible show K9 _ _ _ _); refine P3 ?_)
      | ((with_reducible show F7 _ _ _); (first | refine P1 ?_ | refine P2 ?_)))
  exact q.get):P:=h ⟨k⟩
theorem ZS {P Q:Prop} (k:Q) (h:Hd Q->P:=by
  intro q
  repeat first
    | ((with_reducible show E4 (Et _ _ _ _ _ (_::_) _ _ _ _ _)); (first | refine nx ?_ | refine O2 ?_ | refine O1 ?_))
    | ((with_reducible refine opk ?_); conv=>whnf
       first
      | ((with_reducible show E4 _); refine nw ?_)
      | ((with_reducible show Ha _ _ _); refine Ha.mk _ rfl ?_)
      | ((with_reducible show Ly _ _); refine P0 ?_)
      | ((with_reducible show K9 _ _ _ _); refine P3 ?_)
      | ((with_reducible show F7 _ _ _); (first | refine P1 ?_ | refine P2 ?_)))
    | ((with_reducible show E4 (Et _ _ _ _ _ [] _ _ _ _ _)); refine Lf ?_)
    | ((with_reducible show E4 (wc _ _ _ _ _ _ _ _ _)); refine nw ?_)
    | with_reducible refine Aq ?_
    | with_reducible refine Afv ?_
    | with_reducible refine Hu ?_
    | with_reducible refine Jm ?_
    | with_reducible refine E5 ?_
    | with_reducible refine Afx ?_
    | with_reducible refine Afw ?_
    | ((with_reducible refine cnd ?_); first | refine E3 rfl ?_ | refine Afd rfl ?_)
    | ((with_reducible show L2 _ _ _); refine L2.mk κ ?_)
    | ((with_reducible show wc _ _ (.cond _ _ _) _ _ _ _ _ _); first | refine Aax ?_ | refine O7 ?_)
    | refine nw ?_
    | refine nx ?_
    | refine Lf ?_
    | refine O2 ?_
    | refine O1 ?_
    | (conv=>whnf
       first
      | ((with_reducible show E4 _); refine nw ?_)
      | ((with_reducible show Ha _ _ _); refine Ha.mk _ rfl ?_)
      | ((with_reducible show Ly _ _); refine P0 ?_)
      | ((with_reducible show K9 _ _ _ _); refine P3 ?_)
      | ((with_reducible show F7 _ _ _); (first | refine P1 ?_ | refine P2 ?_)))
  exact q.get):P:=h ⟨k⟩
theorem ZO {P Q:Prop} (k:Q) (h:Hd Q->P:=by
  intro q
  repeat first
    | ((with_reducible show E4 (Et _ _ _ _ _ (_::_) _ _ _ _ _)); (first | refine nx ?_ | refine O2 ?_ | refine O1 ?_))
    | ((with_reducible refine opk ?_); conv=>whnf
       first
      | ((with_reducible show Ha _ _ _); refine Ha.mk _ rfl ?_)
      | ((with_reducible show Ly _ _); refine P0 ?_)
      | ((with_reducible show K9 _ _ _ _); refine P3 ?_)
      | ((with_reducible show F7 _ _ _); (first | refine P1 ?_ | refine P2 ?_)))
    | ((with_reducible show E4 (Et _ _ _ _ _ [] _ _ _ _ _)); refine Lf ?_)
    | ((with_reducible show L2 _ _ _); refine L2.mk κ ?_)
    | refine nx ?_
    | refine Lf ?_
    | refine O2 ?_
    | refine O1 ?_
    | (conv=>whnf
       first
      | ((with_reducible show Ha _ _ _); refine Ha.mk _ rfl ?_)
      | ((with_reducible show Ly _ _); refine P0 ?_)
      | ((with_reducible show K9 _ _ _ _); refine P3 ?_)
      | ((with_reducible show F7 _ _ _); (first | refine P1 ?_ | refine P2 ?_)))
  exact q.get):P:=h ⟨k⟩
theorem Y {P:Prop} (h:P:=by
  repeat' first
    | ((with_reducible show E4 (Et _ _ _ _ _ (_::_) _ _ _ _ _)); first | refine nx ?_ | refine O2 ?_ | refine O1 ?_ | refine Fq h (λ_ h=>?_) (λ_ h=>?_))
    | ((with_reducible refine opk ?_); conv=>whnf
       first
      | ((with_reducible show E4 _); refine nw ?_)
      | ((with_reducible show Ha _ _ _); refine Ha.mk _ rfl ?_)
      | ((with_reducible show Ly _ _); refine P0 ?_)
      | ((with_reducible show Gc _ _ _ _ _ _); (first | refine Bd h (λ_ h=>?_) | refine Amb h (λ_ h=>?_)))
      | ((with_reducible show Wf _ _ _); refine Bw h (λ_ _ _ _ h=>?_))
      | ((with_reducible show Qy _ _ _ _ _); (first | refine Hc h (λ_ _ _ _ h=>?_) | refine Hx h (λ_ _ _ _ h=>?_)))
      | ((with_reducible show K9 _ _ _ _); refine P3 ?_)
      | ((with_reducible show Wg _ _ _ _); refine Amc ?_)
      | ((with_reducible show Lx _ _ _ _ _ _ _); (first | refine Amd h (λ_ h=>?_) | refine J9 h (λ_ h=>?_) | refine Ame h (λ_ h=>?_)))
      | ((with_reducible show Q2 _ _ _); (first | refine Agp h (λ_ h=>?_) | refine Amf h (λ_ h=>?_)))
      | ((with_reducible show Tn _ _ _ _ _); refine Hk h (λ_ h=>?_))
      | ((with_reducible show Qz _ _ _ _); (first | refine Aby h (λ_ h=>?_) | refine Mi h (λ_ h=>?_)))
      | ((with_reducible show F7 _ _ _); (first | refine P1 ?_ | refine P2 ?_))
      | ((with_reducible show Aac _ _ _); refine L6 h (λ_ h=>?_))
      | ((with_reducible show Z7 _ _ _ _); refine Wq h (λ_ h=>?_))
      | ((with_reducible show Z8 _ _ _); refine Aav h (λ_ h=>?_))
      | ((with_reducible show Aey _ _ _ _); refine ob_shl h (λ_ h=>?_))
      | ((with_reducible show Z9 _ _ _ _); refine Alj h (λ_ h=>?_))
      | ((with_reducible show Aaa _ _ _ _); refine Aft h (λ_ _ _ _ h=>?_))
      | ((with_reducible show Aad _ _); refine Gu h (λh=>?_))
      | ((with_reducible show Aae _ _ _ _ _); refine Ale h (λ_ h=>?_))
      | ((with_reducible show Aaf _ _ _ _); refine Alf h (λ_ h=>?_)))
    | ((with_reducible show E4 (Et _ _ _ _ _ [] _ _ _ _ _)); refine Lf ?_)
    | ((with_reducible show E4 (wc _ _ _ _ _ _ _ _ _)); refine nw ?_)
    | with_reducible refine Aq ?_
    | with_reducible refine Bu ?_
    | with_reducible refine Afv ?_
    | with_reducible refine Hu ?_
    | with_reducible refine Jm ?_
    | with_reducible refine E5 ?_
    | with_reducible refine All ?_
    | with_reducible refine Afx ?_
    | with_reducible refine Afw ?_
    | ((with_reducible refine cnd ?_); first | refine E3 rfl ?_ | refine Afd rfl ?_)
    | ((with_reducible show wc _ _ (.cond _ _ _) _ _ _ _ _ _); first | refine Ao h (λ_ h=>?_) (λ_ h=>?_) | refine Aax ?_ | refine O7 ?_)
    | ((with_reducible show L2 _ _ _); refine L2.mk κ ?_)
    | refine nx ?_
    | refine Lf ?_
    | refine O2 ?_
    | refine O1 ?_
    | refine Fq h (λ_ h=>?_) (λ_ h=>?_)
    | exact lpn h
    | exact jnn h
    | replace h:=Cg h
    | replace h:=lpj h
    | refine nw ?_
    | (conv=>whnf
       first
      | ((with_reducible show E4 _); refine nw ?_)
      | ((with_reducible show Ha _ _ _); refine Ha.mk _ rfl ?_)
      | ((with_reducible show Ly _ _); refine P0 ?_)
      | ((with_reducible show Gc _ _ _ _ _ _); (first | refine Bd h (λ_ h=>?_) | refine Amb h (λ_ h=>?_)))
      | ((with_reducible show Wf _ _ _); refine Bw h (λ_ _ _ _ h=>?_))
      | ((with_reducible show Qy _ _ _ _ _); (first | refine Hc h (λ_ _ _ _ h=>?_) | refine Hx h (λ_ _ _ _ h=>?_)))
      | ((with_reducible show K9 _ _ _ _); refine P3 ?_)
      | ((with_reducible show Wg _ _ _ _); refine Amc ?_)
      | ((with_reducible show Lx _ _ _ _ _ _ _); (first | refine Amd h (λ_ h=>?_) | refine J9 h (λ_ h=>?_) | refine Ame h (λ_ h=>?_)))
      | ((with_reducible show Q2 _ _ _); (first | refine Agp h (λ_ h=>?_) | refine Amf h (λ_ h=>?_)))
      | ((with_reducible show Tn _ _ _ _ _); refine Hk h (λ_ h=>?_))
      | ((with_reducible show Qz _ _ _ _); (first | refine Aby h (λ_ h=>?_) | refine Mi h (λ_ h=>?_)))
      | ((with_reducible show F7 _ _ _); (first | refine P1 ?_ | refine P2 ?_))
      | ((with_reducible show Aac _ _ _); refine L6 h (λ_ h=>?_))
      | ((with_reducible show Z7 _ _ _ _); refine Wq h (λ_ h=>?_))
      | ((with_reducible show Z8 _ _ _); refine Aav h (λ_ h=>?_))
      | ((with_reducible show Aey _ _ _ _); refine ob_shl h (λ_ h=>?_))
      | ((with_reducible show Z9 _ _ _ _); refine Alj h (λ_ h=>?_))
      | ((with_reducible show Aaa _ _ _ _); refine Aft h (λ_ _ _ _ h=>?_))
      | ((with_reducible show Aad _ _); refine Gu h (λh=>?_))
      | ((with_reducible show Aae _ _ _ _ _); refine Ale h (λ_ h=>?_))
      | ((with_reducible show Aaf _ _ _ _); refine Alf h (λ_ h=>?_)))
    | (have h:=Option.some.inj h; subst h; exact rfl)
    | (cases h; (repeat refine ⟨rfl,?_⟩); exact trivial)
    | (cases h; done)
):P:=h
end Go.Ab
namespace Go.Ab
open Go Go.Proofs Go.Proofs.Tryz
set_option maxRecDepth 10000
set_option linter.unusedVariables false
theorem Awl {a0 r:List A5} (h:Ca 16 [] a0=some r):Au prog 55 [As 2 Cp a0] (As 2 Cp r):=by
 have h:((Ca 16 [] a0).bind λo=>some o)=some r:=by rw [h]; rfl
 refine pw {T:=Bx,an:=(λs=>bif Nat.beq s 5 then .own else .ask),nl:=(λs=>bif Nat.beq s 2 then [(0,2)] else [])} func55 ?_;refine Aq ?_;refine Bu ?_;refine ZO ?_;refine Aq (Aq ?_);refine J3 (λb:Bool=>b=true->a0 = []) (λb=>[(4,Ap b)]) (λ_=>[]) (λ_=>rfl) ?_ ?_
 .intro K hK;refine Aay 0 ?_;intro v hv;obtain ⟨p,c,rfl,hp⟩:=hv 2 (a0.map Cp) rfl;refine Bu ?_;refine nx ?_;refine nx ?_;refine Lf ?_;refine hK p.isNone _ _ _ (λe=>?_) ⟨rfl,trivial⟩ trivial;cases p with| none=>simpa using hp rfl| some _=>cases e
 .rintro b _ hb;cases b with
  | true=>have hb:=hb rfl;subst hb;have h:some ([]:List A5)=some r:=(by rw [<-h]; rfl);exact Y
  | false=>refine Z ?_;exact Y
theorem Awm {a0:List A5} {r:List A5×List A5} (h:Nz 16 a0=some r):B6 prog 55 [As 2 Cp a0] [] (.arr 1 r.2.length 0 r.2.length) [.rows 69 2 (r.1.map Cp),.rows 69 2 (r.2.map Cp)]:=by
 have h:((Ca 16 [] a0).bind λo=>some (([]:List A5),o))=some r:=h;refine aw {T:=Bx,an:=(λs=>bif Nat.beq s 5 then .own else bif Nat.beq s 2 then .own else .ask),nl:=(λ_=>[])} false func55 ?_;refine Aq ?_;refine Bu ?_;refine ZO ?_;refine Aq (Aq ?_);refine J3 (λb:Bool=>b=true->a0 = []) (λb=>[(4,Ap b)]) (λ_=>[]) (λ_=>rfl) ?_ ?_
 .intro K hK;refine Aay 0 ?_;intro v hv;obtain ⟨p,c,rfl,hp⟩:=hv 2 (a0.map Cp) rfl;refine Bu ?_;refine nx ?_;refine nx ?_;refine Lf ?_;refine hK p.isNone _ _ _ (λe=>?_) ⟨rfl,trivial⟩ ⟨⟨rfl,rfl⟩,trivial⟩;cases p with| none=>simpa using hp rfl| some _=>cases e
 .rintro b _ hb;cases b with
  | true=>have hb:=hb rfl;subst hb;have h:some (([]:List A5),([]:List A5))=some r:=(by rw [<-h]; rfl);cases h;refine ZO ?_;exact Y
  | false=>refine Z ?_;refine ZO ?_;refine J9 h (λ_ h=>?_);exact Y
theorem Awn {a0:List B7} {r:List B7×List B7} (h:Nz 40 a0=some r):B6 prog 174 [As 3 Ds a0] [] (.arr 1 r.2.length 0 r.2.length) [.rows 97 3 (r.1.map Ds),.rows 97 3 (r.2.map Ds)]:=by
 have h:((Ca 40 [] a0).bind λo=>some (([]:List B7),o))=some r:=h;refine aw {T:=Bx,an:=(λs=>bif Nat.beq s 5 then .own else bif Nat.beq s 2 then .own else .ask),nl:=(λ_=>[])} false func174 ?_;refine Aq ?_;refine Bu ?_;refine ZO ?_;refine Aq (Aq ?_);refine J3 (λb:Bool=>b=true->a0 = []) (λb=>[(4,Ap b)]) (λ_=>[]) (λ_=>rfl) ?_ ?_
 .intro K hK;refine Aay 0 ?_;intro v hv;obtain ⟨p,c,rfl,hp⟩:=hv 3 (a0.map Ds) rfl;refine Bu ?_;refine nx ?_;refine nx ?_;refine Lf ?_;refine hK p.isNone _ _ _ (λe=>?_) ⟨rfl,trivial⟩ ⟨⟨rfl,rfl⟩,trivial⟩;cases p with| none=>simpa using hp rfl| some _=>cases e
 .rintro b _ hb;cases b with
  | true=>have hb:=hb rfl;subst hb;have h:some (([]:List B7),([]:List B7))=some r:=(by rw [<-h]; rfl);cases h;refine ZO ?_;exact Y
  | false=>refine Z ?_;refine ZO ?_;refine J9 h (λ_ h=>?_);exact Y
theorem Awo {a0:List A7} {r:List A7×List A7} (h:Nz 40 a0=some r):B6 prog 180 [As 3 Dq a0] [] (.arr 1 r.2.length 0 r.2.length) [.rows 101 3 (r.1.map Dq),.rows 101 3 (r.2.map Dq)]:=by
 have h:((Ca 40 [] a0).bind λo=>some (([]:List A7),o))=some r:=h;refine aw {T:=Bx,an:=(λs=>bif Nat.beq s 5 then .own else bif Nat.beq s 2 then .own else .ask),nl:=(λ_=>[])} false func180 ?_;refine Aq ?_;refine Bu ?_;refine ZO ?_;refine Aq (Aq ?_);refine J3 (λb:Bool=>b=true->a0 = []) (λb=>[(4,Ap b)]) (λ_=>[]) (λ_=>rfl) ?_ ?_
 .intro K hK;refine Aay 0 ?_;intro v hv;obtain ⟨p,c,rfl,hp⟩:=hv 3 (a0.map Dq) rfl;refine Bu ?_;refine nx ?_;refine nx ?_;refine Lf ?_;refine hK p.isNone _ _ _ (λe=>?_) ⟨rfl,trivial⟩ ⟨⟨rfl,rfl⟩,trivial⟩;cases p with| none=>simpa using hp rfl| some _=>cases e
 .rintro b _ hb;cases b with
  | true=>have hb:=hb rfl;subst hb;have h:some (([]:List A7),([]:List A7))=some r:=(by rw [<-h]; rfl);cases h;refine ZO ?_;exact Y
  | false=>refine Z ?_;refine ZO ?_;refine J9 h (λ_ h=>?_);exact Y
end Go.Ab
namespace Go.Ab
open Go Go.Proofs Go.Shelf Go.Proofs.Tryz
set_option maxRecDepth 100000
set_option linter.unusedVariables false
theorem Cr.up {σ:Ax} {ι:B2} {H:Hp} {F:Ax} {w w':World} {x:Nat} (h:Cr σ ι H F w x) (hk:∀(b:Nat) (o:Obj),w.heap[b]? = some o->w'.heap[b]? = some o):Cr σ ι H F w' x:=by
 unfold Cr at h ⊢;cases hx:H x with
 | none=>rw [hx] at h; exact h
 | dead=>trivial
 | cells E cs=>rw [hx] at h;obtain ⟨b,C,h1,h2,h3,g,f⟩:=h;exact ⟨b,C,h1,h2,h3,hk _ _ g,f⟩
 | rows E sz xs=>
  rw [hx] at h;obtain ⟨h0,h1,h2⟩:=h;refine ⟨h0,h1,?_⟩;rcases h2 with h2 | ⟨b,c,C,q,l,k,j,i⟩
  .exact .inl h2
  .exact .inr ⟨b,c,C,q,l,k,hk _ _ j,i⟩
 | map es=>rw [hx] at h;obtain ⟨b,M,t,h1,h2,h3,g,f⟩:=h;exact ⟨b,M,t,h1,h2,h3,hk _ _ g,f⟩
theorem St.growG {σ:Ax} {ι:B2} {H:Hp} {F:Ax} {W w:World} (s:St σ ι H F W w) (k:Nat) (os:Array Obj):St σ ι H F W (Sort.grow (Sort.ahead w k) os):=by
 have hk:∀(b:Nat) (o:Obj),w.heap[b]? = some o->(Sort.grow (Sort.ahead w k) os).heap[b]? = some o:=by intro b o h;have c:=(Array.getElem?_eq_some_iff.1 h).1;show (w.heap++os)[b]? = _;rw [Array.getElem?_append_left c]; exact h
 exact ⟨λb o h=>hk b o (s.sto b o h),λb o h=>⟨hk b o (s.fra b o h).1,(s.fra b o h).2⟩,λh=>(s.obj h).up hk,s.inj,s.os,s.tape,s.output,s.glo,Nat.le_trans s.drw (Nat.le_add_right _ _)⟩
theorem Awp {α:Type} [Inhabited α] (enc:α->Value) (w:World) (b:Nat) (d:Array α) (C:Array Value) (E:TypeId) (h:w.heap[b]? = some (.cells C E (0,0))):Sort.putRow enc w b 0 d=w.setRow b (Sort.putCells enc 0 d C):=by
 have c:(Sort.putRow enc w b 0 d).heap=(w.setRow b (Sort.putCells enc 0 d C)).heap:=by
  apply Array.ext_getElem?;intro i;simp only [Sort.putRow,Sort.mapBlock,World.setRow,Array.getElem?_modify];split
  .rename_i e; subst e;rw [h]; simp [Sort.onCells]
  .rfl
 unfold Sort.putRow Sort.mapBlock World.setRow at c ⊢;simp only at c;rw [c]
end Go.Ab
namespace Go.Ab
open Go Go.Proofs Go.Shelf Go.Sort Go.Proofs.Tryz
set_option maxRecDepth 100000
set_option linter.unusedVariables false
theorem Awq {v:Value} (h:Ej v=true):v.oneCell'=true:=by cases v <;> first | rfl | cases h
theorem Awr {σ:Ax} {ι:B2} {H:Hp} {f:FuncId} {v:Value} (h:Conc σ ι H (.fn f []) v):v = .func (.func f) #[] #[]:=by cases h with| cc h=>cases h| fn _ _ vs b _=>have:vs = #[]:=Array.size_eq_zero_iff.1 (by simpa using b);rw [this]
def Amg {α:Type} (σ:Ax) (eA:α->AV) (sz:Nat) (S:List α) (x:α) (c:List Value):Prop := x∈S/\(eA x).cells.length=sz/\c.length=sz/\∀(j:Nat) (a:AV) (v:Value),(eA x).cells[j]? = some a->c[j]? = some v->CC σ a v/\Ej v=true
abbrev Na {α:Type} (σ:Ax) (eA:α->AV) (sz:Nat) (S:List α):Type:={p:α×List Value // Amg σ eA sz S p.1 p.2}
theorem Aws {σ:Ax} {W w':World} (g:∀b o,W.heap[b]? = some o->σ b=some o) (s:St σ ι0 H0 (λ_=>none) W w'):∃q f,w'=grow (W.drewN q) f:=by
 have hk:∀b o,W.heap[b]? = some o->w'.heap[b]? = some o:=λb o h=>s.sto b o (g b o h);have j:W.heap.size<=w'.heap.size:=by
  rcases Nat.eq_zero_or_pos W.heap.size with h | h
  .omega
  .have:=hk (W.heap.size-1) _ (Array.getElem?_eq_getElem ω);have:=(Array.getElem?_eq_some_iff.1 this).1;omega
 refine ⟨w'.drawn-W.drawn,w'.heap.extract W.heap.size w'.heap.size,?_⟩;have c:w'.heap=W.heap++w'.heap.extract W.heap.size w'.heap.size:=by
  apply Array.ext_getElem?;intro i;by_cases hi:i<W.heap.size
  .rw [Array.getElem?_append_left hi,Array.getElem?_eq_getElem hi];exact hk i _ (Array.getElem?_eq_getElem hi)
  .rw [Array.getElem?_append_right ω];by_cases hj:i<w'.heap.size
   .rw [Array.getElem?_eq_getElem hj,Array.getElem?_eq_getElem (by simp; omega)];simp only [Array.getElem_extract];congr 2;omega
   .rw [Array.getElem?_eq_none ω,Array.getElem?_eq_none (by simp; omega)]
 have h1:=s.os;have h2:=s.tape;have h3:=s.output;have k:=s.drw;cases w' with| mk heap tape drawn os output=>simp only at h1 h2 h3 k c;unfold grow World.drewN;simp only [World.mk.injEq];exact ⟨c,h2,ω,h1,h3⟩
theorem Amh {ρ:Ren} {α:Type} {eA:α->AV} {E:TypeId} {sz f g:Nat} {cmp:α->α->Option Int} (L:SlLaysF0.n6 prog ρ) (hf:ρ.f 6=f) (a7:Z6 prog f) (aE:∀w,(isAgg (ρ.t 24)).run prog w = .ok true w) (zE:∀w,(Go.sizeOf (ρ.t 24)).run prog w = .ok sz w) (eg:∀args w,(callFunc g args).run prog w = .ok (.enter g args) w) (ay:∀x y n,cmp x y=some n->Au prog g [eA x,eA y] (O .i64 n)) (b3:∀x,∃cs,eA x = .agg cs) {l r:List α} (h:Ny cmp l=some r) (ak:l≠[]) : B6 prog f [.arr 0 l.length 0 l.length,.fn g []] [.rows E sz (l.map eA)] (.tup []) [.rows E sz (r.map eA)]:=by
 obtain ⟨cf,law,be,I,A⟩:=Av9 h;refine ⟨a7,λσ F W w ι vs s ax=>?_⟩;obtain ⟨v,v2,rfl,G,b6⟩:=Ago ax;obtain rfl:=Awr b6;have hh:hp [.rows E sz (l.map eA)] 0 = .rows E sz (l.map eA):=rfl;have R:=G.arr_inv hh ψ;have hor:=s.obj 0;unfold Cr at hor;rw [hh] at hor;obtain ⟨U,ao,hor⟩:=hor;rw [List.length_map] at ao;rcases hor with ⟨_,ai⟩ | ⟨b,V,D,hb,g1,g2,g3,g4,g5,g6⟩
 .exact (ak (by simpa using ai)).elim
 rw [List.length_map] at g5;unfold F1 at R;rw [hb] at R;simp only [Nat.zero_mul,Nat.sub_zero] at R;obtain ⟨ht,ab⟩:=R;subst ab;obtain ⟨gg,q1,q2,q3⟩:=g6;have aa:∀(i:Nat) (x:α),l[i]? = some x->(l.map eA)[i]? = some (eA x):=λi x hx=>by rw [List.getElem?_map,hx]; rfl
 have a1:∀(i:Nat) (hi:i<l.length),Amg σ eA sz l l[i] ((List.range sz).map (gg i)):=by intro i hi;have hx:l[i]? = some l[i]:=List.getElem?_eq_getElem hi;refine ⟨List.getElem_mem hi,q1 i _ (aa i _ hx),ψ,λj a v ha G=>?_⟩;rw [List.getElem?_map,Option.map_eq_some_iff] at G;obtain ⟨k,hk,rfl⟩:=G;have ba:k=j:=(by have:=(List.getElem?_eq_some_iff.1 hk).2;simpa using this.symm);subst ba;exact q2 i _ k a (aa i _ hx) ha
 have hpos:0<l.length:=List.length_pos_iff.2 ak;let d:Array (Na σ eA sz l):=Array.ofFn λi:Fin l.length=>⟨(l[i.1],(List.range sz).map (gg i.1)),a1 i.1 i.2⟩
 haveI:Inhabited (Na σ eA sz l):=⟨⟨(l[0],(List.range sz).map (gg 0)),a1 0 hpos⟩⟩;have B:d.size=l.length:=by simp [d]
 have bb:∀i (hi:i<l.length),d[i]! = ⟨(l[i],(List.range sz).map (gg i)),a1 i hi⟩:=λi hi=>by rw [getElem!_pos d i (by rw [B]; exact hi)]; simp [d]
 let enc:Na σ eA sz l->List Value:=λp=>p.1.2
 have hk:∀x:Na σ eA sz l,(enc x).length=sz:=λx=>x.2.2.2.1;have h1:∀x:Na σ eA sz l,∀v∈enc x,v.oneCell'=true:=by intro x v G;obtain ⟨j,hj⟩:=List.getElem?_of_mem G;have q:=(List.getElem?_eq_some_iff.1 hj).1;rw [hk x] at q;have ha:(eA x.1.1).cells[j]? = some ((eA x.1.1).cells[j]'(by rw [x.2.2.1]; exact q)):=List.getElem?_eq_getElem _;exact Awq (x.2.2.2.2 j _ v ha hj).2
 let a8:Na σ eA sz l->Na σ eA sz l->Int:=λx y=>cf x.1.1 y.1.1
 have hO:SWO (ltOf a8):=by
  constructor
  .intro x; exact decide_eq_false (law.irr x.1.1)
  .intro x y z Y X;exact decide_eq_true (law.trs _ _ _ (of_decide_eq_true Y) (of_decide_eq_true X))
  .intro x y z Y X;exact decide_eq_false (law.ntr _ _ _ (of_decide_eq_false Y) (of_decide_eq_false X))
 have hH:HoldsK enc sz w b 0 d:=by
  intro t Z;rw [size_flatK,B] at Z;have ad:t / sz<l.length:=Nat.div_lt_of_lt_mul (by rw [Nat.mul_comm]; exact Z);have ac:t % sz<sz:=Nat.mod_lt _ U;rw [get_flatK _ _ _ _ (by rw [B]; exact Z),bb _ ad];have e:=q3 (t / sz) (t % sz) (by rw [List.length_map]; exact ad) ac;rw [show t / sz*sz+t % sz=t by rw [Nat.mul_comm]; exact Nat.div_add_mod t sz] at e;refine ⟨?_,?_⟩
  .rw [Nat.zero_add,Je g3,e];show some _=some (id _);congr 1;show gg _ _=((List.range sz).map (gg (t / sz)))[t % sz]!;rw [getElem!_pos _ _ (by simpa using ac)];simp
  .simp [World.frozen?,g3]
 have hblk:b<w.heap.size:=(Array.getElem?_eq_some_iff.1 g3).1;have hC:CmpLays prog g #[] enc sz a8 b 0 d.size w:=by
  intro m os dk hs x y;generalize b5:sortWorldK enc sz w b 0 m dk os=S;have aq:∀b' o,σ b'=some o->S.heap[b']? = some o:=(by intro b' o ho;have aj:b≠b':=(by rintro rfl;rw [g1] at ho; cases ho);have e:=s.sto b' o ho;have q:=(Array.getElem?_eq_some_iff.1 e).1;rw [<-b5];show ((w.heap.modify b _)++os)[b']? = _;rw [Array.getElem?_append_left (by simpa using q),Array.getElem?_modify,if_neg aj]; exact e);have au:=be x.1.1 x.2.1 y.1.1 y.2.1;have hp:=ay _ _ _ au;have s1:St ((λb=>S.heap[b]?)) ι0 H0 (λ_=>none) S S:=⟨λ_ _ e=>e,(λ_ _ e=>by cases e),λ_=>rfl,(λ_ _ _ hl=>by cases hl),rfl,rfl,rfl,s.glo.mono aq,Nat.le_refl _⟩;have az:∀z:Na σ eA sz l,Conc ((λb=>S.heap[b]?)) ι0 H0 (eA z.1.1) (.agg (enc z).toArray):=by
   intro z;obtain ⟨cs,av⟩:=b3 z.1.1;have J:(eA z.1.1).cells=cs:=(by rw [av]; rfl);rw [av];refine .cc (.agg _ _ ?_ λi c v hc G=>?_)
   .rw [<-J,z.2.2.1]; simp [hk z]
   .rw [<-J] at hc;exact (z.2.2.2.2 i c v hc (by simpa using G)).1.mono aq
  refine (hp.2 ((λb=>S.heap[b]?)) (λ_=>none) S S _ s1 ⟨rfl,?_⟩).mono ?_
  .intro i a v ha G
   match i,ha,G with| 0,ha,G=>cases ha; cases G; exact az x| 1,ha,G=>cases ha; cases G; exact az y| n+2,ha,G=>simp at ha
  .rintro e w' ⟨v,σ',rfl,ap,b7,hc⟩;refine ⟨?_,?_⟩
   .cases hc with| cc h=>cases h; rfl
   .exact Aws (σ:=σ') (λb o ho=>ap b o ho) b7
 have call:=AnyQ.slices_SortFunc L sz aE zE enc hk h1 a8 hO g #[] b 0 V d w eg hC hH hblk (by rw [B]; omega);rw [hf,B] at call;refine call.mono ?_;rintro e w' ⟨rfl,u,n,os,b9,b8,rfl⟩;obtain ⟨p1,p2,p3⟩:=b9;have N:u.size=l.length:=by rw [p1,B]
 have M:∀(a:Array (Na σ eA sz l)),a.size=l.length->(a.extract 0 l.length).toList=a.toList:=λa ha=>by rw [<-ha]; simp
 rw [M u N,M d B] at p3;have am:d.toList.map (λp=>p.1.1)=l:=by
  apply List.ext_getElem
  .simp [B]
  .intro i bh bg;simp [d]
 have ah:(u.toList.map λp=>p.1.1).Perm l:=by have:=p3.map λp:Na σ eA sz l=>p.1.1;rwa [am] at this
 have hR:(u.toList.map λp=>p.1.1).Pairwise λx y=>cf x y<0\/cf y x<0:=by refine ((ah.trans I.symm).pairwise_iff (λ{x y} h=>h.symm)).2 ?_;exact A.imp λh=>.inl h
 have hS:(u.toList.map λp=>p.1.1).Pairwise λx y=>cf x y<0:=by
  rw [List.pairwise_iff_getElem] at hR ⊢;intro i j hi hj ar;simp only [List.length_map,Array.length_toList] at hi hj;rcases hR i j (by simpa using hi) (by simpa using hj) ar with h | h
  .exact h
  .have:=b8 i j (Nat.zero_le _) ar ω;rw [getElem!_pos u i hi,getElem!_pos u j hj] at this;have:=of_decide_eq_false this;simp only [List.getElem_map,Array.getElem_toList] at h;exact (this h).elim
 have ag:u.toList.map (λp=>p.1.1)=r:=by refine List.Perm.eq_of_pairwise (le:=λx y=>cf x y<0) (λx y _ _ h1 h2=>(law.irr x (law.trs _ _ _ h1 h2)).elim) hS A (ah.trans I.symm)
 have af:r.length=l.length:=I.length_eq;have bf:(flatK enc sz u).size=l.length*sz:=by rw [size_flatK,N]
 have b4:(Sort.putCells id 0 (flatK enc sz u) D).size=V*sz:=by unfold Sort.putCells; rw [Array.size_mapIdx]; exact g4
 have ae:∀(i:Nat) (x:α),r[i]? = some x->i<u.size/\(u[i]!).1.1=x:=by intro i x hx;rw [<-ag,List.getElem?_map,Option.map_eq_some_iff] at hx;obtain ⟨p,hp,rfl⟩:=hx;have q:=(List.getElem?_eq_some_iff.1 hp).1;simp only [Array.length_toList] at q;refine ⟨q,?_⟩;rw [getElem!_pos u i q];have:=(List.getElem?_eq_some_iff.1 hp).2;simp only [Array.getElem_toList] at this;rw [this]
 obtain ⟨s',le⟩:=s.setRows 0 E sz _ (r.map eA) hh b V hb (by simp [af]) (Sort.putCells id 0 (flatK enc sz u) D) b4 (by
  refine ⟨λi j=>(enc u[i]!)[j]!,?_,?_,?_⟩
  .intro i x hx;rw [List.getElem?_map] at hx;obtain ⟨z,hz,rfl⟩:=Option.map_eq_some_iff.1 hx;obtain ⟨e1,e2⟩:=ae i z hz;rw [<-e2]; exact (u[i]!).2.2.1
  .intro i x j c hx a6;rw [List.getElem?_map] at hx;obtain ⟨z,hz,rfl⟩:=Option.map_eq_some_iff.1 hx;obtain ⟨e1,e2⟩:=ae i z hz;rw [<-e2] at a6;have q:=(List.getElem?_eq_some_iff.1 a6).1;rw [(u[i]!).2.2.1,<-(u[i]!).2.2.2.1] at q;have hg:(u[i]!).1.2[j]? = some ((enc u[i]!)[j]!):=(by rw [List.getElem?_eq_getElem q,getElem!_pos (enc u[i]!) j q]);exact (u[i]!).2.2.2.2 j c _ a6 hg
  .intro i j hi hj;rw [List.length_map,af] at hi;have q:i*sz+j<l.length*sz:=(by have:=Nat.mul_le_mul_right sz (show i+1<=l.length from hi);rw [Nat.add_mul,Nat.one_mul] at this; omega);have hD:i*sz+j<D.size:=(by rw [g4];exact Nat.lt_of_lt_of_le q (Nat.mul_le_mul_right sz g5));unfold Sort.putCells;rw [Array.getElem?_mapIdx,Array.getElem?_eq_getElem hD];simp only [Option.map_some,Nat.zero_le,true_and,Nat.zero_add,bf,q,if_true,Nat.sub_zero];congr 1;show id ((flatK enc sz u)[i*sz+j]!)=_;rw [get_flatK _ _ _ _ (by rw [N]; exact q)];have e1:(i*sz+j) / sz=i:=(by rw [Nat.mul_comm,Nat.mul_add_div U,Nat.div_eq_of_lt hj,Nat.add_zero]);have e2:(i*sz+j) % sz=j:=(by rw [Nat.mul_comm,Nat.mul_add_mod,Nat.mod_eq_of_lt hj]);rw [e1,e2]; rfl);have eH:A8 (hp [.rows E sz (l.map eA)]) 0 (.rows E sz (r.map eA))=hp [.rows E sz (r.map eA)]:=by
  funext i
  match i with| 0=>rfl| i+1=>rfl
 rw [eH] at le s';have eW:sortWorldK enc sz w b 0 n u os=Sort.grow (Sort.ahead (w.setRow b (Sort.putCells id 0 (flatK enc sz u) D)) n) os:=by unfold sortWorldK putRowK;rw [Awp id (Sort.ahead w n) b (flatK enc sz u) D E g3];rfl
 rw [eW];exact ⟨_,σ,ι,rfl,le,s'.growG n os,.tup _ _ rfl (λi c v h1 _=>by cases h1)⟩
def Awt:Ren:={f:=λx=>match x with | 6=>92 | 15=>148 | 14=>147 | 28=>211 | 29=>212 | 20=>203 | 21=>204 | 22=>205 | 23=>206 | 24=>207 | 25=>208 | 26=>209 | 27=>210 | 46=>272 | 47=>273 | 48=>274 | 49=>275 | 50=>276 | 57=>317 | n=>n,t:=λx=>match x with | 22=>28 | 24=>69 | 25=>141 | 3=>3 | 39=>194 | 0=>0 | 53=>135 | 55=>134 | 4=>4 | 46=>263 | 45=>262 | 50=>158 | 5=>5 | 9=>9 | 66=>325 | 70=>329 | 76=>366 | 77=>367 | n=>n,g:=λn=>n}
theorem Awu:SlLaysF0.n6 prog Awt:=by
 constructor
 case f6=>exact Exists.intro "slices.SortFunc[[]amortcost/api.LinTerm,amortcost/api.LinTerm]" ⟨κ,κ⟩
 case f14=>exact Exists.intro "slices.pdqsortCmpFunc[amortcost/api.LinTerm]" ⟨κ,κ⟩
 case f20=>exact Exists.intro "slices.insertionSortCmpFunc[amortcost/api.LinTerm]" ⟨κ,κ⟩
 case f21=>exact Exists.intro "slices.heapSortCmpFunc[amortcost/api.LinTerm]" ⟨κ,κ⟩
 case f22=>exact Exists.intro "slices.breakPatternsCmpFunc[amortcost/api.LinTerm]" ⟨κ,κ⟩
 case f23=>exact Exists.intro "slices.choosePivotCmpFunc[amortcost/api.LinTerm]" ⟨κ,κ⟩
 case f24=>exact Exists.intro "slices.reverseRangeCmpFunc[amortcost/api.LinTerm]" ⟨κ,κ⟩
 case f25=>exact Exists.intro "slices.partialInsertionSortCmpFunc[amortcost/api.LinTerm]" ⟨κ,κ⟩
 case f26=>exact Exists.intro "slices.partitionEqualCmpFunc[amortcost/api.LinTerm]" ⟨κ,κ⟩
 case f27=>exact Exists.intro "slices.partitionCmpFunc[amortcost/api.LinTerm]" ⟨κ,κ⟩
 case f46=>exact Exists.intro "slices.siftDownCmpFunc[amortcost/api.LinTerm]" ⟨κ,κ⟩
 case f49=>exact Exists.intro "slices.medianAdjacentCmpFunc[amortcost/api.LinTerm]" ⟨κ,κ⟩
 case f50=>exact Exists.intro "slices.medianCmpFunc[amortcost/api.LinTerm]" ⟨κ,κ⟩
 case f57=>exact Exists.intro "slices.order2CmpFunc[amortcost/api.LinTerm]" ⟨κ,κ⟩
 all_goals first | kernel_rfl | (intro w; kernel_rfl)
theorem Awv {α:Type} {eA:α->AV} {g:Nat} {cmp:α->α->Option Int} (j:∀args w,(callFunc g args).run prog w = .ok (.enter g args) w) (b:∀x y n,cmp x y=some n->Au prog g [eA x,eA y] (O .i64 n)) (c:∀x,∃cs,eA x = .agg cs) {f r:List α} (h:Ny cmp f=some r) (i:f≠[]) : B6 prog 92 [.arr 0 f.length 0 f.length,.fn g []] [.rows 69 2 (f.map eA)] (.tup []) [.rows 69 2 (r.map eA)] := Amh Awu rfl ⟨_,func92,κ,κ⟩ (by intro w; kernel_rfl) (by intro w; kernel_rfl) j b c h i
def Aww:Ren:={f:=λx=>match x with | 6=>123 | 15=>148 | 14=>194 | 28=>211 | 29=>212 | 20=>250 | 21=>251 | 22=>252 | 23=>253 | 24=>254 | 25=>255 | 26=>256 | 27=>257 | 46=>311 | 47=>273 | 48=>274 | 49=>312 | 50=>313 | 57=>353 | n=>n,t:=λx=>match x with | 22=>36 | 24=>66 | 25=>165 | 3=>3 | 39=>194 | 0=>0 | 53=>135 | 55=>134 | 4=>4 | 46=>263 | 45=>262 | 50=>158 | 5=>5 | 9=>9 | 66=>325 | 70=>329 | 76=>366 | 77=>367 | n=>n,g:=λn=>n}
theorem Awx:SlLaysF0.n6 prog Aww:=by
 constructor
 case f6=>exact Exists.intro "slices.SortFunc[[]amortcost/api.Term,amortcost/api.Term]" ⟨κ,κ⟩
 case f14=>exact Exists.intro "slices.pdqsortCmpFunc[amortcost/api.Term]" ⟨κ,κ⟩
 case f20=>exact Exists.intro "slices.insertionSortCmpFunc[amortcost/api.Term]" ⟨κ,κ⟩
 case f21=>exact Exists.intro "slices.heapSortCmpFunc[amortcost/api.Term]" ⟨κ,κ⟩
 case f22=>exact Exists.intro "slices.breakPatternsCmpFunc[amortcost/api.Term]" ⟨κ,κ⟩
 case f23=>exact Exists.intro "slices.choosePivotCmpFunc[amortcost/api.Term]" ⟨κ,κ⟩
 case f24=>exact Exists.intro "slices.reverseRangeCmpFunc[amortcost/api.Term]" ⟨κ,κ⟩
 case f25=>exact Exists.intro "slices.partialInsertionSortCmpFunc[amortcost/api.Term]" ⟨κ,κ⟩
 case f26=>exact Exists.intro "slices.partitionEqualCmpFunc[amortcost/api.Term]" ⟨κ,κ⟩
 case f27=>exact Exists.intro "slices.partitionCmpFunc[amortcost/api.Term]" ⟨κ,κ⟩
 case f46=>exact Exists.intro "slices.siftDownCmpFunc[amortcost/api.Term]" ⟨κ,κ⟩
 case f49=>exact Exists.intro "slices.medianAdjacentCmpFunc[amortcost/api.Term]" ⟨κ,κ⟩
 case f50=>exact Exists.intro "slices.medianCmpFunc[amortcost/api.Term]" ⟨κ,κ⟩
 case f57=>exact Exists.intro "slices.order2CmpFunc[amortcost/api.Term]" ⟨κ,κ⟩
 all_goals first | kernel_rfl | (intro w; kernel_rfl)
theorem Awy {α:Type} {eA:α->AV} {g:Nat} {cmp:α->α->Option Int} (j:∀args w,(callFunc g args).run prog w = .ok (.enter g args) w) (b:∀x y n,cmp x y=some n->Au prog g [eA x,eA y] (O .i64 n)) (c:∀x,∃cs,eA x = .agg cs) {f r:List α} (h:Ny cmp f=some r) (i:f≠[]) : B6 prog 123 [.arr 0 f.length 0 f.length,.fn g []] [.rows 66 5 (f.map eA)] (.tup []) [.rows 66 5 (r.map eA)] := Amh Awx rfl ⟨_,func123,κ,κ⟩ (by intro w; kernel_rfl) (by intro w; kernel_rfl) j b c h i
end Go.Ab
namespace Go.Ab
open Go Go.Proofs Go.Shelf Go.Proofs.Tryz
set_option maxRecDepth 100000
set_option linter.unusedVariables false
theorem Z3 {σ:Ax} {ι:B2} {H:Hp} {u v:Value} (h:Conc σ ι H (.val u) v):v=u:=by cases h with| cc h=>cases h; rfl
theorem Agq {ρ:Ren} {α:Type} {eA:α->AV} {E:TypeId} {sz f:Nat} (L:Lays8.n4 prog ρ) (N:ρ.f 4=f) (g:Z6 prog f) (l:TypeInfo) (z:Value) (G:prog.info? (ρ.t 25)=some l) (D:l.zero=some z) (X:ρ.t 25=E) (U:l.size=sz) (B:z.cells.size=sz) (q:0<sz) (I:l.bytes<=1000) {n:Int} {r:List α} (h:M0 n=some r):B6 prog f [.val (.slice none 0 0),O .i64 n] [] (.arr 0 r.length 0 r.length) [.rows E sz (r.map eA)]:=by
 have V:r = []/\0<=n/\n<=1000000:=by
  unfold M0 at h;by_cases h1:0<=n
  .by_cases h2:n<=1000000
   .rw [decide_eq_true h1,decide_eq_true h2] at h;have h:some ([]:List α)=some r:=h;cases h; exact ⟨rfl,h1,h2⟩
   .rw [decide_eq_false h2,Bool.and_false] at h; cases h
  .rw [decide_eq_false h1,Bool.false_and] at h; cases h
 obtain ⟨rfl,n0,n1⟩:=V;obtain ⟨m,rfl⟩:∃m:Nat,n=m:=⟨n.toNat,ω⟩;refine ⟨g,λσ F W w ι vs s y=>?_⟩;obtain ⟨v,u,rfl,S,hu⟩:=Ago y;obtain rfl:=Z3 S;obtain rfl:=Z3 hu;have M:hp [] 0 = .none:=rfl;have R:A8 (hp []) 0 (.rows E sz [])=hp [.rows E sz []]:=by
  funext i
  match i with| 0=>rfl| i+1=>rfl
 by_cases h0:m=0
 .subst h0;have call:=Any8.slices_Grow_room L none 0 0 0 w (Nat.le_refl _) δ δ δ;rw [N] at call;refine call.mono ?_;rintro e w' ⟨rfl,rfl⟩;obtain ⟨s',le⟩:=s.newNil 0 M E sz q;rw [R] at s' le;refine ⟨_,σ,_,rfl,le,s',.arr 0 0 0 0 _ (by intro e; cases e) (λZ A xs e=>?_) rfl⟩;cases e;refine ⟨Nat.le_refl _,λ_=>?_⟩;unfold F1;rw [Co];exact ⟨rfl,rfl,rfl⟩
 .have hb:(0+m)*l.bytes<=140737488355328:=(by have:=Nat.mul_le_mul (show 0+m<=1000000 by omega) I;omega);have call:=Any8.slices_Grow_grow L l z G D ω none 0 0 m [] w (Nat.le_refl _) ω hb ω ψ (λ_=>rfl) (λa h=>by cases h);rw [N,X] at call;refine call.mono ?_;rintro e w' ⟨rfl,rfl⟩;have hge:=Zx w (0+m) 0 E;generalize grownCap w (0+m) 0 E=cap at hge;have b:∀k,(Builtin.zeroCells z.cells k).size=k*sz:=(by intro k; simp [Builtin.zeroCells,B]);generalize Y:(([]:List Value).toArray++Builtin.zeroCells z.cells (0+m-0)++Builtin.zeroCells z.cells (cap-(0+m)))=C;have J:C.size=cap*sz:=(by rw [<-Y,Array.size_append,Array.size_append,b,b];simp only [List.size_toArray,List.length_nil,Nat.zero_add,Nat.sub_zero,<-Nat.add_mul];congr 1; omega);obtain ⟨s',le⟩:=(s.drew (w.drawn+1)).newRows 0 E sz [] cap C (.inl M) q ψ ψ J ⟨λ_ _=>.bool false,(by intro i x h; simp at h),(by intro i x j c h; simp at h),(by intro i j h; simp at h)⟩;rw [R] at s' le;refine ⟨_,σ,_,rfl,le,s',.arr 0 0 0 0 _ (by intro e; cases e) (λZ A xs e=>?_) rfl⟩;cases e;refine ⟨Nat.le_refl _,λ_=>?_⟩;unfold F1;rw [Co];exact ⟨Nat.zero_le _,ψ⟩
def Awz:Ren:={f:=λx=>match x with | 4=>95 | n=>n,t:=λx=>match x with | 22=>28 | 25=>69 | 3=>3 | 4=>4 | 9=>9 | 20=>20 | 0=>0 | n=>n,g:=λn=>n}
theorem Aw0:Lays8.n4 prog Awz:=by
 constructor
 case f4=>exact Exists.intro "slices.Grow[[]amortcost/api.LinTerm,amortcost/api.LinTerm]" ⟨κ,κ⟩
 all_goals first | kernel_rfl | (intro w; kernel_rfl)
theorem Aw1 {α:Type} {eA:α->AV} {n:Int} {r:List α} (h:M0 n=some r):B6 prog 95 [.val (.slice none 0 0),O .i64 n] [] (.arr 0 r.length 0 r.length) [.rows 69 2 (r.map eA)] := Agq Aw0 rfl ⟨_,func95,κ,κ⟩ Tryz.t69 (Tryz.t69.zero.getD .nilFunc) κ κ rfl κ κ δ (of_decide_eq_true κ) h
def Aw2:Ren:={f:=λx=>match x with | 4=>259 | n=>n,t:=λx=>match x with | 22=>61 | 25=>97 | 3=>3 | 4=>4 | 9=>9 | 20=>20 | 0=>0 | n=>n,g:=λn=>n}
theorem Aw3:Lays8.n4 prog Aw2:=by
 constructor
 case f4=>exact Exists.intro "slices.Grow[[]amortcost/api.Factor,amortcost/api.Factor]" ⟨κ,κ⟩
 all_goals first | kernel_rfl | (intro w; kernel_rfl)
theorem Aw4 {α:Type} {eA:α->AV} {n:Int} {r:List α} (h:M0 n=some r):B6 prog 259 [.val (.slice none 0 0),O .i64 n] [] (.arr 0 r.length 0 r.length) [.rows 97 3 (r.map eA)] := Agq Aw3 rfl ⟨_,func259,κ,κ⟩ Tryz.t97 (Tryz.t97.zero.getD .nilFunc) κ κ rfl κ κ δ (of_decide_eq_true κ) h
def Aw5:Ren:={f:=λx=>match x with | 4=>260 | n=>n,t:=λx=>match x with | 22=>62 | 25=>101 | 3=>3 | 4=>4 | 9=>9 | 20=>20 | 0=>0 | n=>n,g:=λn=>n}
theorem Aw6:Lays8.n4 prog Aw5:=by
 constructor
 case f4=>exact Exists.intro "slices.Grow[[]amortcost/api.Atom,amortcost/api.Atom]" ⟨κ,κ⟩
 all_goals first | kernel_rfl | (intro w; kernel_rfl)
theorem Aw7 {α:Type} {eA:α->AV} {n:Int} {r:List α} (h:M0 n=some r):B6 prog 260 [.val (.slice none 0 0),O .i64 n] [] (.arr 0 r.length 0 r.length) [.rows 101 3 (r.map eA)] := Agq Aw6 rfl ⟨_,func260,κ,κ⟩ Tryz.t101 (Tryz.t101.zero.getD .nilFunc) κ κ rfl κ κ δ (of_decide_eq_true κ) h
end Go.Ab
