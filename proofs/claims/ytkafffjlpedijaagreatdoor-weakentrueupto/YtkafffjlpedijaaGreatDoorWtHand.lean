/- Contracts of strings.Builder and strconv.Itoa. -/
import Derived.Test.YtkafffjlpedijaaGreatDoorWtTy
import Derived.Test.YtkafffjlpedijaaGreatDoorWtHandB
import Derived.Shelf.Strconv.Itoa4
import Derived.KernelRfl
import Derived.Shelf.Sort.Plain
import Derived.Shelf.SlSortCmp.WholeK
import Derived.Shelf.Spec.SlicesGrow
namespace Go.Ab
open Go Go.Proofs Go.Shelf Go.Proofs.Tryz
set_option maxRecDepth 100000
def Ao7:Ren:={f:=λx=>match x with|171=>199|243=>257|246=>291|283=>329|284=>330|285=>331|286=>332|129=>172|317=>351|318=>352|319=>353|320=>354|337=>366|338=>367|173=>259|n=>n,t:=λx=>match x with|3=>3|9=>9|2=>2|4=>4|171=>398|0=>0|53=>100|37=>269|5=>5|173=>400|212=>424|51=>101|20=>20|213=>425|46=>168|232=>442|233=>443|n=>n,g:=λx=>match x with|17=>0|18=>1|19=>2|n=>n}
theorem Ao8:LaysM.n171 prog Ao7:=by constructor;constructor;all_goals first|kernel_rfl | (intro w;kernel_rfl)
theorem St.grown {σ:A5} {F:A5} {W w:World} (s:St σ ι0 H0 F W w) (k:Nat) (os:Array Obj):St σ ι0 H0 F W (Sort.grow (w.drewN k) os):=by
 have hk:∀(b:Nat) (o:Obj),w.heap[b]? = some o->(Sort.grow (w.drewN k) os).heap[b]? = some o:=by intro b o h;have c:=(Array.getElem?_eq_some_iff.1 h).1;show (w.heap++os)[b]? = _;rw[Array.getElem?_append_left c];exact h
 exact⟨λb o h=>hk b o (s.sto b o h),λb o h=>⟨hk b o (s.fra b o h).1,(s.fra b o h).2⟩,λ_=>rfl,(λ_ _ _ f=>by cases f),s.os,s.tape,s.output,s.glo,Nat.le_trans s.drw (Nat.le_add_right _ _)⟩
theorem Ao9 {σ:A5} {ι:B9} {H:Hp} {F:A5} {W w:World} (s:St σ ι H F W w):Lib.TabIs prog w "internal/strconv.uint64pow10" .u64 Lib.pow10Tab:=by obtain⟨E,fr,e⟩:=s.glo;have h:=s.sto _ _ e;have g:prog.globalNamed "internal/strconv.uint64pow10" = some 0:=Ao8.m17;unfold Lib.TabIs World.var?;rw[g];simp only[Option.bind_some,h]
theorem Ug {σ:A5} {ι:B9} {H:Hp} {x:AV} {vs:Array Value} (h:Nj σ ι H [x] vs):∃v,vs = #[v]/\Conc σ ι H x v:=by
 obtain⟨h1,h2⟩:=h;have h1:vs.size=1:=h1;refine⟨vs[0],?_,h2 0 x _ rfl (by simp[h1])⟩;apply Array.ext
 .simp[h1]
 .intro i hi b;have:i=0:=ω;subst this;rfl
theorem A1m {a0:Int} {r:ByteArray} (h:Pc a0=some r):Az prog 199 [O .i64 a0] (F9 r):=by
 unfold Pc at h;split at h
 .rename_i hc;cases h;refine⟨⟨_,func199,κ,κ⟩,λσ F W w vs s b=>?_⟩;obtain⟨v,rfl,hv⟩:=Ug b;have hv:=hv.val_inv;subst hv;have:=Any.strconv_Itoa Ao8 a0 hc.1 hc.2 w (Ao9 s);refine this.mono ?_;rintro e w' ⟨rfl,k,os,rfl⟩;exact⟨_,σ,rfl,A5.le_refl σ,s.grown k os,.of_val _⟩
 .cases h
theorem A1n:LaysM.n173 prog Ao7:=by constructor;constructor;all_goals first|kernel_rfl | (intro w;kernel_rfl)
theorem Ai4 {σ:A5} {ι:B9} {H:Hp} {x y:AV} {vs:Array Value} (h:Nj σ ι H [x,y] vs):∃v u,vs = #[v,u]/\Conc σ ι H x v/\Conc σ ι H y u:=by
 obtain⟨h1,h2⟩:=h;have h1:vs.size=2:=h1;refine⟨vs[0],vs[1],?_,h2 0 x _ rfl (by simp[h1]),h2 1 y _ rfl (by simp[h1])⟩;apply Array.ext
 .simp[h1]
 .intro i hi b;rcases (ω:i=0\/i=1) with h|h
  .subst h;rfl
  .subst h;rfl
theorem A1o {a0 a1:Int} {r:ByteArray} (h:Ac8 a0 a1=some r):Az prog 259 [O .i64 a0,O .i64 a1] (F9 r):=by
 unfold Ac8 at h;cases hb:a1==10 with
 | false=>rw[hb]at h;cases h
 | true=>
  rw[hb]at h;have hb:=eq_of_beq hb;subst hb;have h:Pc a0=some r:=h;unfold Pc at h;split at h
  .rename_i hc;cases h;refine⟨⟨_,func259,κ,κ⟩,λσ F W w vs s b=>?_⟩;obtain⟨v,u,rfl,hv,hu⟩:=Ai4 b;have hv:=hv.val_inv;have hu:=hu.val_inv;subst hv;subst hu;have:=Any.strconv_FormatInt_10 A1n a0 hc.1 hc.2 w (Ao9 s);refine this.mono ?_;rintro e w' ⟨rfl,k,os,rfl⟩;exact⟨_,σ,rfl,A5.le_refl σ,s.grown k os,.of_val _⟩
  .cases h
theorem Aah (o:Bu) (os:List Bu):hp (o::os) 0=o:=rfl
theorem A1p (x:AV) (rest:List Bu):Bt prog 255 [.loc 0 0] (.cells 271 [.loc 0 0,x]::rest) (.tup []) (.cells 271 [.loc 0 0,x]::rest):=by
 refine⟨⟨_,func255,κ,κ⟩,λσ F W w ι vs s f=>?_⟩;obtain⟨v,rfl,hv⟩:=Ug f;obtain⟨b,hb,hv⟩:=hv.loc_inv;subst hv;have k:=s.obj 0;unfold C1 at k;rw[Aah]at k;obtain⟨z,C,u,_,_,h3,q,y⟩:=k;rw[hb]at u;cases u;have q:C.size=2:=q;have g:C[0]? = some C[0]:=by simp[q]
 have l:=y 0 (.loc 0 0) C[0] rfl g;obtain⟨b2,h,j⟩:=l.loc_inv;rw[hb]at h;cases h;have cell:w.cell? ⟨b,0,none⟩=some (.pointer (some ⟨b,0,none⟩)):=by rw[J6 h3,g,j]
 refine (Tryz.check_used b w cell).mono ?_;rintro e w' ⟨rfl,rfl⟩;exact⟨_,σ,ι,rfl,Le.refl _ _ _,s,.tup _ _ rfl (λi c v h1 _=>by cases h1)⟩
theorem A1q (x:AV) (rest:List Bu):Bt prog 255 [.loc 0 0] (.cells 271 [.val (.pointer none),x]::rest) (.tup []) (.cells 271 [.loc 0 0,x]::rest):=by
 refine⟨⟨_,func255,κ,κ⟩,λσ F W w ι vs s j=>?_⟩;obtain⟨v,rfl,hv⟩:=Ug j;obtain⟨b,hb,hv⟩:=hv.loc_inv;subst hv;have q:=s.obj 0;unfold C1 at q;rw[Aah]at q;obtain⟨B,C,z,_,_,h3,g,y⟩:=q;rw[hb]at z;cases z;have g:C.size=2:=g;have k:C[0]? = some C[0]:=by simp[g]
 have l:=(y 0 (.val (.pointer none)) C[0] rfl k).val_inv;have cell:w.cell? ⟨b,0,none⟩=some (.pointer none):=by rw[J6 h3,k,l]
 refine (Tryz.check_fresh b w cell (by simp[World.shape?,h3,g]) (by simp[World.frozen?,h3])).mono ?_;rintro e w' ⟨rfl,rfl⟩;obtain⟨s',le⟩:=s.setBox 0 271 [.val (.pointer none),x] [.loc 0 0,x] rfl b hb #[.pointer (some ⟨b,0,none⟩),C[1]] rfl (by
  intro i c v h1 h2
  match i with| 0=>simp at h1 h2;subst h1;subst h2;exact .loc 0 0 b hb| 1=>simp at h1 h2;subst h1;subst h2;exact y 1 x _ rfl (by simp[g])| i+2=>simp at h1)
 have A:Bg (hp (.cells 271 [.val (.pointer none),x]::rest)) 0 (.cells 271 [.loc 0 0,x])=hp (.cells 271 [.loc 0 0,x]::rest):=by funext i;cases i with| zero=>rfl| succ i=>rfl
 have eW:w.setCell ⟨b,0,none⟩ (.pointer (some ⟨b,0,none⟩))=w.setRow b #[.pointer (some ⟨b,0,none⟩),C[1]]:=by
  have h:C.setIfInBounds 0 (.pointer (some ⟨b,0,none⟩)) = #[.pointer (some ⟨b,0,none⟩),C[1]]:=by
   apply Array.ext
   .simp[g]
   .intro i hi u
    match i with| 0=>simp| 1=>rw[Array.getElem_setIfInBounds_ne _ δ];rfl| i+2=>simp at u;omega
  have f:(w.setCell ⟨b,0,none⟩ (.pointer (some ⟨b,0,none⟩))).heap=(w.setRow b #[.pointer (some ⟨b,0,none⟩),C[1]]).heap:=by
   apply Array.ext_getElem?;intro i;simp only[World.setCell,World.setRow,Array.getElem?_modify];split
   .rename_i e;subst e;rw[h3];simp[h]
   .rfl
  unfold World.setCell World.setRow at f ⊢;simp only at f;rw[f]
 rw[A]at s' le;rw[eW];exact⟨_,σ,ι,rfl,le,s',.tup _ _ rfl (λi c v h1 _=>by cases h1)⟩
theorem A1r {l:List Int} (h:∀x∈l,0<=x/\x<256) {j:Nat} {x:UInt8} (hx:(E2 l)[j]? = some x):l[j]? = some (x.toNat:Int):=by simp only[E2,List.getElem?_map,Option.map_eq_some_iff]at hx;obtain⟨y,hy,rfl⟩:=hx;have b:=h y (List.mem_of_getElem? hy);rw[hy];congr 1;have:y.toNat<256:=ω;simp only[UInt8.toNat_ofNat'];omega
theorem St.kill {σ:A5} {ι:B9} {H:Hp} {F:A5} {W w:World} (s:St σ ι H F W w) (h:Nat):St σ ι (Bg H h .dead) F W w/\Le σ ι H σ ι (Bg H h .dead):=by
 have le:Le σ ι H σ ι (Bg H h .dead):=by have:=Le.upd (ι:=ι) (H:=H) (A5.le_refl σ) h (ι h) .dead ⟨λ_ e=>e,(λ_ e=>by cases e),(λ_ k j i e=>by cases e)⟩;rwa [I9]at this
 obtain⟨f1,f2⟩:=s.fresh;refine⟨s.touch h w.heap.size (λ_ _=>rfl) (λx e=>Di _ _ e) le (λ_ _=>rfl) (λ_ _=>rfl) (λo g=>by rw[f1]at g;cases g) ?_ f2 ?_ ?_ rfl rfl rfl,le⟩
 .intro x _ c f;have:=(s.block c f).1;omega
 .intro b c;rw[Cy]at c;cases c
 .unfold C1;rw[Cy];trivial
theorem St.fbox {σ:A5} {ι:B9} {H:Hp} {F:A5} {W w:World} (s0:St σ ι H F W w) {T:TypeId} {p x:AV} {s:ByteArray} {b:Nat} {C:Array Value} (hh:H 0 = .cells T [p,x]) (hb:ι 0 = .box b) (h3:w.heap[b]? = some (.cells C T (0,0))) (hc:∀v,C[1]? = some v->CC σ (.fb s) v):St σ ι (Bg H 0 (.cells T [p,.fb s])) F W w/\Le σ ι H σ ι (Bg H 0 (.cells T [p,.fb s])):=by
 have f:=s0.obj 0;unfold C1 at f;rw[hh]at f;obtain⟨q,u,j,g1,g2,g3,g4,g5⟩:=f;rw[hb]at j;cases j;rw[h3]at g3;cases g3;have le:Le σ ι H σ ι (Bg H 0 (.cells T [p,.fb s])):=by have:=Le.upd (ι:=ι) (H:=H) (A5.le_refl σ) 0 (ι 0) (.cells T [p,.fb s]) (by rw[hh];exact⟨λ_ e=>e,(λ_ e=>by cases e),(λ_ _ _ _ e=>by cases e)⟩);rwa [I9]at this
 refine⟨s0.touch 0 b (λ_ _=>rfl) (λx e=>Di _ _ e) le (λx e=>rfl) (λ_ _=>rfl) (λo e=>by rw[g1]at e;cases e) ?_ g2 ?_ ?_ rfl rfl rfl,le⟩
 .intro x e k g;exact e (s0.inj x 0 b k (by rw[hh];rfl) g (by rw[hb];rfl))
 .intro l _ h;exact .inr ⟨by rw[hh];rfl,h⟩
 .unfold C1;rw[Cy];refine⟨b,C,hb,g1,g2,h3,by simpa using g4,λi c v x y=>?_⟩
  match i with| 0=>exact (g5 0 c v x y).mono le| 1=>cases x;exact .cc (hc v y)| i+2=>cases x
theorem A1s {p:AV}:Bt prog 201 [.loc 0 0] [.cells 271 [p,.arr 1 0 0 0],.rows 5 1 []] (F9 .empty) [.cells 271 [p,.fb .empty],.dead]:=by
 refine⟨⟨_,func201,κ,κ⟩,λσ F W w ι vs s y=>?_⟩;obtain⟨v,rfl,hv⟩:=Ug y;obtain⟨b,hb,hv⟩:=hv.loc_inv;subst hv;have L:=s.obj 0;unfold C1 at L;rw[Aah]at L;obtain⟨b',C,X,_,_,h3,A,h5⟩:=L;rw[hb]at X;cases X;have A:C.size=2:=A;have Z:C = #[C[0],C[1]]:=by
  apply Array.ext
  .simp[A]
  .intro i hi M
   match i with| 0=>rfl| 1=>rfl| i+2=>simp at M;omega
 have N:=h5 1 (.arr 1 0 0 0) C[1] rfl (by simp[A]);have x:hp [Bu.cells 271 [p,.arr 1 0 0 0],.rows 5 1 []] 1 = .rows 5 1 []:=rfl;have c:=N.arr_inv x ψ;have hor:=s.obj 1;unfold C1 at hor;rw[x]at hor;obtain⟨_,U,hor⟩:=hor;have eH:Bg (Bg (hp [Bu.cells 271 [p,.arr 1 0 0 0],.rows 5 1 []]) 1 .dead) 0 (.cells 271 [p,.fb .empty])=hp [Bu.cells 271 [p,.fb .empty],.dead]:=by
  funext i
  match i with| 0=>rfl| 1=>rfl| i+2=>rfl
 have go:∀(a q:Option Addr) (cap:Nat) (z:A5) (j:World),C[1] = .slice a 0 cap->j.heap[b]? = w.heap[b]?->(Builtin.unsafeSliceData_ #[269] 337 #[.slice a 0 cap]).run prog w.drew = .ok (.pointer q) j ->
   Le σ ι (hp [Bu.cells 271 [p,.arr 1 0 0 0],.rows 5 1 []]) z ι (hp [Bu.cells 271 [p,.arr 1 0 0 0],.rows 5 1 []])->St z ι (hp [Bu.cells 271 [p,.arr 1 0 0 0],.rows 5 1 []]) F W j -> Calls prog 201 #[.pointer (some ⟨b,0,none⟩)] w λe w'=>∃v B E,e = .returned v/\Le σ ι (hp [Bu.cells 271 [p,.arr 1 0 0 0],.rows 5 1 []]) B E (hp [Bu.cells 271 [p,.fb .empty],.dead])/\St B E (hp [Bu.cells 271 [p,.fb .empty],.dead]) F W w'/\Conc B E (hp [Bu.cells 271 [p,.fb .empty],.dead]) (F9 .empty) v:=by intro a q cap z j f u R le G;have h:w.heap[b]? = some (.cells #[C[0],.slice a 0 cap] 271 (0,0)):=(by rw[h3];congr 1;rw[<-f,<-Z]);refine (Tryz.builder_str0 b cap C[0] a q w j h (u.trans h) R).mono ?_;rintro e w' ⟨rfl,rfl⟩;obtain⟨Y,I⟩:=G.kill 1;obtain⟨S,l⟩:=Y.fbox (b:=b) (C:=#[C[0],.slice a 0 cap]) (s:=.empty) (by rfl) hb ((u.trans h)) (λv hv=>by simp at hv;subst hv;exact .fbn _ _ _ rfl);rw[eH]at S l;exact⟨_,z,ι,rfl,(le.trans I).trans l,S,.of_val _⟩
 rcases hor with⟨hi,_⟩|⟨g,k,D,hg,g1,g2,g3,g4,g5,g6⟩
 .unfold G4 at c;rw[hi]at c;exact go none none 0 σ w.drew c.1 rfl rfl (Le.refl _ _ _) (s.drew _)
 .unfold G4 at c;rw[hg]at c;simp only[Nat.zero_mul,Nat.zero_add,Nat.sub_zero]at c;obtain⟨_,f⟩:=c;by_cases ht:k=0
  .subst ht;obtain⟨G,J⟩:=(s.drew (w.drawn+1)).newFrozen (.view ⟨g,0,none⟩ 5);have V:=(Array.getElem?_eq_some_iff.1 h3).1;refine go _ _ 0 _ (w.drew.alloc (.view ⟨g,0,none⟩ 5)) f ?_ (Lib.run_unsafeSliceData_zero _ _ _ 5 Go.Proofs.Tryz.underlying337 _ _ (5,D.size) (by have:w.drew.heap[g]? = some (.cells D 5 (0,0)):=g3;simp[World.shape?,this])) J G;show (w.heap.push _)[b]? = _;rw[Array.getElem?_push,if_neg ω]
  .exact go _ _ k σ w.drew f rfl (Lib.run_unsafeSliceData_row _ _ _ _ _ _ ht) (Le.refl _ _ _) (s.drew _)
theorem Apa {p:AV} {l:List Int} {r:ByteArray} (h:Yd l=some r):Bt prog 201 [.loc 0 0] [.cells 271 [p,.arr 1 l.length 0 l.length],.rows 5 1 (List.map (O .u8) l)] (F9 r) [.cells 271 [p,.fb r],.dead]:=by
 unfold Yd at h;split at h
 .rename_i a8;cases h;by_cases u:l = []
  .subst u;exact A1s
  refine⟨⟨_,func201,κ,κ⟩,λσ F W w ι vs s R=>?_⟩;obtain⟨v,rfl,hv⟩:=Ug R;obtain⟨b,hb,hv⟩:=hv.loc_inv;subst hv;have A:=s.obj 0;unfold C1 at A;rw[Aah]at A;obtain⟨b',C,e1,_,_,h3,X,h5⟩:=A;rw[hb]at e1;cases e1;have X:C.size=2:=X;have hC:C = #[C[0],C[1]]:=by
   apply Array.ext
   .simp[X]
   .intro i hi a6
    match i with| 0=>rfl| 1=>rfl| i+2=>simp at a6;omega
  have a7:=h5 1 (.arr 1 l.length 0 l.length) C[1] rfl (by simp[X]);have M:hp [Bu.cells 271 [p,.arr 1 l.length 0 l.length],.rows 5 1 (List.map (O .u8) l)] 1 = .rows 5 1 (List.map (O .u8) l):=rfl;have y:=a7.arr_inv M ψ;have hor:=s.obj 1;unfold C1 at hor;rw[M]at hor;obtain⟨_,L,hor⟩:=hor;rw[List.length_map]at L;rcases hor with⟨_,I⟩|⟨g,q,D,hg,g1,g2,g3,g4,g5,g6⟩
  .exact (u (by simpa using I)).elim
  .rw[List.length_map]at g5;unfold G4 at y;rw[hg]at y;simp only[Nat.zero_mul,Nat.zero_add,Nat.sub_zero]at y;obtain⟨ht,G⟩:=y;have c:(E2 l).length=l.length:=(by simp[E2]);have f:∀(j:Nat) (x:UInt8),(E2 l)[j]? = some x->D[j]? = some (Value.int .u8 x.toNat):=(by intro j x hx;have hj:=A1r a8 hx;obtain⟨gg,q1,q2,q3⟩:=g6;have E:(List.map (O .u8) l)[j]? = some (O .u8 x.toNat):=(by rw[List.getElem?_map,hj];rfl);have Z:j<(List.map (O .u8) l).length:=(List.getElem?_eq_some_iff.1 E).1;have q4:=q3 j 0 Z ω;have q5:=(q2 j _ 0 _ E rfl).1;have:gg j 0=Value.int .u8 x.toNat:=(by generalize gg j 0=z at q5;cases q5;rfl);rw[this]at q4;simpa using q4);have S:w.heap[b]? = some (.cells #[C[0],.slice (some ⟨g,0,none⟩) (E2 l).length q] 271 (0,0)):=(by rw[h3];congr 1;rw[c];have:C[1] = .slice (some ⟨g,0,none⟩) l.length q:=G;rw[<-this,<-hC]);have U:l.length<=D.size:=(by rw[g4];omega);have call:=Tryz.builder_str b g q C[0] D (E2 l) w (by intro e;apply u;rw[<-List.length_eq_zero_iff,<-c,e];rfl) S g3 (by rw[c];exact g5) (by rw[c];exact U) (by rw[c];omega) f;refine call.mono ?_;rintro e w' ⟨rfl,rfl⟩;have J:(E2 l).length≠0:=(by rw[c];simpa using u);have a1:σ.le (Bg σ g (some (.cells D 5 (0,(E2 l).length)))):=(by intro b' o' hb';rw[Di _ _ (by intro e;subst e;rw[g1]at hb';cases hb')];exact hb');have Y:(w.drew.freeze ⟨g,0,none⟩ (E2 l).length).heap[g]? = some (.cells D 5 (0,(E2 l).length)):=(by unfold World.freeze;rw[if_neg J];simp only[Array.getElem?_modify,if_true];have:w.drew.heap[g]? = some (.cells D 5 (0,0)):=g3;rw[this];simp);have N:∀b,b≠g->(w.drew.freeze ⟨g,0,none⟩ (E2 l).length).heap[b]? = w.heap[b]?:=by
    intro b hb;unfold World.freeze;split
    .rfl
    .simp only[Array.getElem?_modify];rw[if_neg (Ne.symm hb)];rfl
   have le:Le σ ι (hp [Bu.cells 271 [p,.arr 1 l.length 0 l.length],.rows 5 1 (List.map (O .u8) l)]) (Bg σ g (some (.cells D 5 (0,(E2 l).length)))) ι (Bg (hp [Bu.cells 271 [p,.arr 1 l.length 0 l.length],.rows 5 1 (List.map (O .u8) l)]) 1 .dead):=(by have:=Le.upd (ι:=ι) (H:=hp [Bu.cells 271 [p,.arr 1 l.length 0 l.length],.rows 5 1 (List.map (O .u8) l)]) a1 1 (ι 1) .dead ⟨λ_ e=>e,(λ_ e=>by cases e),(λ_ E1 ad ac e=>by cases e)⟩;rwa [I9]at this);have eH:Bg (Bg (hp [Bu.cells 271 [p,.arr 1 l.length 0 l.length],.rows 5 1 (List.map (O .u8) l)]) 1 .dead) 0 (.cells 271 [p,.fb ⟨(E2 l).toArray⟩])=hp [Bu.cells 271 [p,.fb ⟨(E2 l).toArray⟩],.dead]:=by
    funext i
    match i with| 0=>rfl| 1=>rfl| i+2=>rfl
   have ab:b≠g:=(by intro e;have:=s.inj 0 1 g rfl rfl (by rw[hb,e];rfl) (by rw[hg];rfl);cases this);have s2:St (Bg σ g (some (.cells D 5 (0,(E2 l).length)))) ι (Bg (hp [Bu.cells 271 [p,.arr 1 l.length 0 l.length],.rows 5 1 (List.map (O .u8) l)]) 1 .dead) F W (w.drew.freeze ⟨g,0,none⟩ (E2 l).length):=by
    refine s.touch (hdrw:=by unfold World.freeze;split <;> exact Nat.le_succ _) 1 g (λ_ _=>rfl) (λx e=>Di _ _ e) le N (λx e=>Di _ _ e) (λo A=>by rw[Cy]at A;cases A;exact Y) ?_ g2 ?_ ?_ ?_ ?_ ?_
    .intro x hx V aa;exact hx (s.inj x 1 g V rfl aa (by rw[hg];rfl))
    .intro b0 V;rw[Cy]at V;cases V
    .unfold C1;rw[Cy];trivial
    .unfold World.freeze;split <;> rfl
    .unfold World.freeze;split <;> rfl
    .unfold World.freeze;split <;> rfl
   obtain⟨s3,B⟩:=s2.fbox (b:=b) (C:=#[C[0],.slice (some ⟨g,0,none⟩) (E2 l).length q]) (s:=⟨(E2 l).toArray⟩) (by rfl) hb ((N b ab).trans S) (λv hv=>by simp only[List.getElem?_toArray,List.getElem?_cons_succ,List.getElem?_cons_zero,Option.some.injEq]at hv;subst hv;have k:(ByteArray.mk (E2 l).toArray).size=(E2 l).length:=(by simp[ByteArray.size]);rw[<-k];refine .fb _ g q D (by rw[Cy,k]) (by rw[k];exact J) (by rw[k,c];omega) (by rw[k,c];exact U) (by rw[k,c];omega) (λj x hx=>f j x (by simpa using hx)));rw[eH]at s3 B;exact⟨_,_,ι,rfl,le.trans B,s3,.of_val _⟩
 .cases h
theorem Apb {p:AV} {f r:ByteArray} (h:(bif Nat.beq f.size 0 then none else some f)=some r):Bt prog 201 [.loc 0 0] [.cells 271 [p,.fb f]] (F9 r) [.cells 271 [p,.fb f]]:=by
 have q:r.size≠0/\f=r:=by cases hb:Nat.beq f.size 0 with| true=>rw[hb]at h;cases h| false=>rw[hb]at h;cases h;exact⟨(λe=>by rw[e]at hb;exact Bool.noConfusion hb),rfl⟩
 clear h;obtain⟨q,B⟩:=q;subst B;refine⟨⟨_,func201,κ,κ⟩,λσ F W w ι vs s y=>?_⟩;obtain⟨v,rfl,hv⟩:=Ug y;obtain⟨b,hb,hv⟩:=hv.loc_inv;subst hv;have E:=s.obj 0;unfold C1 at E;rw[Aah]at E;obtain⟨X,C,M,_,_,h3,A,S⟩:=E;rw[hb]at M;cases M;have A:C.size=2:=A;have L:C = #[C[0],C[1]]:=by
  apply Array.ext
  .simp[A]
  .intro i hi G
   match i with| 0=>rfl| 1=>rfl| i+2=>simp at G;omega
 have l:=S 1 (.fb f) C[1] rfl (by simp[A]);generalize C[1]=u at L l;generalize C[0]=N at L;subst L;cases l with
 | cc l=>
  cases l with
  | fbn _ a cap h0=>exact (q h0).elim
  | fb _ g cap D R h0 z J V I=>
   have hg:=s.sto _ _ R;have k:f.data.toList.length=f.size:=(by rw[Array.length_toList];rfl);have call:=Tryz.builder_str b g cap N D f.data.toList w (by intro e;rw[e]at k;exact h0 k.symm) (by rw[k];exact h3) hg (by rw[k];exact z) (by rw[k];exact J) (by rw[k];omega) (λj x hx=>I j x (by simpa using hx));refine call.mono ?_;rintro e w' ⟨rfl,rfl⟩;have hw:w.drew.freeze ⟨g,0,none⟩ f.data.toList.length=w.drew:=by
    unfold World.freeze;split
    .rfl
    .have:w.drew.heap.modify g (λo=>match o with|.cells c elem (lo,hi)=>.cells c elem (if lo==hi then (0,0+f.data.toList.length) else (min lo 0,max hi (0+f.data.toList.length))) | o=>o)=w.drew.heap:=by
      apply Array.ext_getElem?;intro i;rw[Array.getElem?_modify];split
      .rename_i e;subst e;have:w.drew.heap[g]? = some (.cells D 5 (0,f.size)):=hg;rw[this];simp[k,Ne.symm h0]
      .rfl
     exact congrArg (λh=>{w.drew with heap:=h}) this
   rw[hw];have U:(⟨f.data.toList.toArray⟩:ByteArray)=f:=ψ;rw[U];exact⟨_,σ,ι,rfl,Le.refl _ _ _,s.drew _,.of_val _⟩
end Go.Ab
namespace Go.Ab
open Go Go.Proofs Go.Proofs.Tryz
set_option linter.unusedVariables false
class OK {α:Type} (o:Option α) (G:outParam (α->Prop)):Prop where
 ok:∀{r:α},o=some r->G r
theorem okz {α:Type} {G:α->Prop}:OK (none:Option α) G:=⟨λh=>by cases h⟩
section
variable {P:Program} {C:Cfg} {Qn:Nat->B6->Hp->Prop} {Qe:Nat->Nat->B6->Hp->Prop} {Qr:Nat->B6->Hp->Prop} {n:Nat} {e:B6} {H:Hp} {β:Type} {r:β}
variable {T:C6} {an:Nat->Ann} {nl:Nat->List (Nat×Nat)} {ops:Array Oper} {o:Oper} {os:List Oper} {acc:Jc} {K:Nat->B6->Hp->Jc->Prop}
theorem Gp {p:Nat×Bool} {s:Nat} {b:Bool} {m m':Option β} (h:(bif b then m else m')=some r) (h1:b=true->m=some r->Fw (Fi P T an nl ops (o::os) n (Bg e s (.val (.bool true))) H acc K)) (h2:b=false->m'=some r->Fw (Fi P T an nl ops (o::os) n (Bg e s (.val (.bool false))) H acc K)) (hg:o.guard=some p:=by exact rfl) (hs:(ops[p.1]?).bind (·.dst)=some s:=by exact rfl) (hb:e s = .val (.bool b):=by exact rfl):Fw (Fi P T an nl ops (o::os) n e H acc K):=A0v h h1 h2 hb
theorem nw {c:Code} (k:wc P C c Qn Qe Qr n e H):Fw (wc P C c Qn Qe Qr n e H):=.mk k
theorem Ct {S E:Type} {o:S⊕E} {J:E->Option β} {x:E} (h:some (Sum.inr x)=some o) (hx:∀x,Sum.inr x=o->J x=some r:=by assumption):J x=some r:=hx x (Option.some.inj h)
theorem lpj {S:Type} {o:S} {J:S->Option β} {x:S} (h:some x=some o) (hx:∀y,y=o->J y=some r:=by assumption):J x=some r:=hx x (Option.some.inj h)
theorem lpn {S E:Type} {o:S⊕E} {s':S} {K:Nat->B6->Hp->Prop} {iv:S->List (Nat×AV)} {hv:S->List (Nat×Bu)} {inv:S->Prop} {n0:Nat} {H0:Hp} (h:some (Sum.inl s')=some o) (hn:∀s' n' e' H',Sum.inl s'=o->Hv e' (iv s')->Hw H' (C2 H0 (hv s')) n0 n0->inv s'->K n' e' H':=by assumption) (hs:Hv e (iv s'):=by (repeat refine⟨rfl,?_⟩);exact trivial) (hh:Hw H (C2 H0 (hv s')) n0 n0:=by (repeat refine⟨⟨rfl,rfl⟩,?_⟩);exact trivial) (hi:inv s':=by first|trivial|exact rfl | ((repeat refine I5 ?_ _ _);first|exact rfl|assumption)):K n e H:=hn s' n e H (Option.some.inj h) hs hh hi
theorem jnn {S E:Type} {o x:E} {s:S} {J:S->Prop} {K:Nat->B6->Hp->Prop} {iv:S->List (Nat×AV)} {hv:S->List (Nat×Bu)} {n0:Nat} {H0:Hp} (h:some x=some o) (hn:∀s n' e' H',J s->Hv e' (iv s)->Hw H' (C2 H0 (hv s)) n0 n0->K n' e' H':=by assumption) (hJ:J s:=by exact Option.some.inj h) (hs:Hv e (iv s):=by (repeat refine⟨rfl,?_⟩);exact trivial) (hh:Hw H (C2 H0 (hv s)) n0 n0:=by (repeat refine⟨⟨rfl,rfl⟩,?_⟩);exact trivial):K n e H:=hn s n e H hJ hs hh
theorem Bm {α:Type} {o:Option α} {m:α->Option β} {f:FuncId} {args:List AV} {G:α->Prop} {ra:α->AV} {K:Eff->Nat->Prop} (h:o.bind m=some r) [i:OK o G] (k:∀v,m v=some r->K ⟨ra v,[],[]⟩ n) (hG:∀v,G v->Az P f args (ra v):=by exact λ_ h=>h) (hf:args.all AV.free=true:=by exact rfl):Gb P n H f args K := De h λv hv h=>Gb.mk _ (hG v (i.ok hv)) hf (k v h)
theorem Apc {α:Type} {o:Option α} {m:α->Option β} {f:FuncId} {args args':List AV} {G:α->Prop} {ra:α->AV} {K:Eff->Nat->Prop} (h:o.bind m=some r) [i:OK o G] (k:∀v,m v=some r->K ⟨ra v,[],[]⟩ n) (hG:∀v,G v->Az P f args' (ra v):=by exact λ_ h=>h) (hs:Qv args args':=by (repeat first|refine⟨Sub.refl _,?_⟩|refine⟨Sub.nil _,?_⟩);exact trivial) (hf:args.all AV.free=true:=by exact rfl):Gb P n H f args K := De h λv hv h=>Gb.mk _ (Az.sub (hG v (i.ok hv)) hs (Sub.refl _)) hf (k v h)
theorem Bf {α:Type} {o:Option α} {m:α->Option β} {f:FuncId} {args largs:List AV} {G:α->Prop} {ra:α->AV} {hs:List Bu} {hs':α->List Bu} {K:Eff->Nat->Prop} (l:List Nat) (h:o.bind m=some r) [i:OK o G] (k:∀v,m v=some r->K ⟨ren (Es n l) (ra v),wrs (Es n l) 0 hs++Cp (Es n l) l.length ((hs' v).length-l.length),wrs (Es n l) 0 (hs' v)⟩ (n+((hs' v).length-l.length))) (hG:∀v,G v->Bt P f largs hs (ra v) (hs' v):=by exact λ_ h=>h) (ha:largs.map (ren (Es n l))=args:=by exact rfl) (ok:∀v,Va n l largs hs (ra v) (hs' v)=true:=by exact λ_=>rfl) (hh:Sv H (wrs (Es n l) 0 hs):=by (repeat refine⟨rfl,?_⟩);exact trivial):Gb P n H f args K := De h λv hv h=>Gb.act l largs hs (ra v) (hs' v) (hG v (i.ok hv)) ha (ok v) hh (k v h)
theorem Bz {α:Type} {l:List α} {f:α->AV} {ys:List AV} {i:Int} {m:α->Option β} {K:Nat->AV->Prop} (h:(Af l i).bind m=some r) (k:∀(n:Nat) (x:α),i=n->l[n]? = some x->m x=some r->K n (f x)) (he:ys=l.map f:=by first|exact rfl|exact Lj _|exact M2 _|exact J1 _):X5 ys i K:=A0w he h k
theorem Je {α:Type} {l:List α} {f:α->AV} {ys:List AV} {i:Int} {m:α->Option β} {K:Nat->Prop} {len kk:Nat} (h:(Af l i).bind m=some r) (k:∀(n:Nat) (x:α),i=n->l[n]? = some x->m x=some r->K n) (he:ys=l.map f:=by first|exact rfl|exact Lj _|exact M2 _|exact J1 _) (hl:len=l.length:=by first|exact rfl|assumption|exact Jz (by assumption) | ((repeat refine I5 ?_ _ _);first|exact rfl|assumption)) (hk:kk=l.length:=by first|exact rfl|assumption|exact Jz (by assumption) | ((repeat refine I5 ?_ _ _);first|exact rfl|assumption)):Sw len kk ys i K:=A0x he hl hk h k
theorem M3 {α:Type} {l:List α} {f:α->AV} {ys:List AV} {i:Int} {m:α->Option β} {K:Nat->Prop} {off len kk:Nat} (h:(Hn l off len i).bind m=some r) (k:∀(n:Nat) (x:α),i=n->l[off+n]? = some x->m x=some r->K n) (he:ys=l.map f:=by first|exact rfl|exact Lj _|exact M2 _|exact J1 _) (hk:kk=l.length:=by first|exact rfl|assumption|exact Jz (by assumption) | ((repeat refine I5 ?_ _ _);first|exact rfl|assumption)):Sw len kk ys i K:=A0y he hk h k
theorem Ru {α:Type} {l:List α} {f:α->AV} {ys:List AV} {K:Int->Prop} (k:K (l.length:Int)) (he:ys=l.map f:=by first|exact rfl|exact Lj _|exact M2 _|exact J1 _):Nk ys K:=A09 he k
theorem Rv {α:Type} {l:List α} {f:α->AV} {ys:List AV} {kk:Nat} {K:Prop} (k:K) (he:ys=l.map f:=by first|exact rfl|exact Lj _|exact M2 _|exact J1 _) (hk:kk=l.length:=by first|exact rfl|assumption|exact Jz (by assumption) | ((repeat refine I5 ?_ _ _);first|exact rfl|assumption)):Hf kk ys K:=A1a he hk k
theorem Rw {K:Prop} (k:K):Hf 0 [] K:=.mk rfl k
theorem Rx {α:Type} {l:List α} {f:α->AV} {ys:List AV} {n i kk:Nat} {x:α} {K:AV->Prop} (k:K (f x)) (he:ys=l.map f:=by first|exact rfl|exact Lj _|exact M2 _|exact J1 _) (hk:kk=l.length:=by first|exact rfl|assumption|exact Jz (by assumption) | ((repeat refine I5 ?_ _ _);first|exact rfl|assumption)) (hi:i=n/\l[n]? = some x:=by first|exact⟨Nat.zero_add _,by assumption⟩|exact⟨rfl,by assumption⟩):Mm kk i ys K:=A02 he hk hi.1 hi.2 k
theorem Apd {α:Type} {l:List α} {f:α->AV} {ys:List AV} {n i:Nat} {j:Int} {x:α} {p:AV} {K:List AV->Prop} (k:K ((Cu l j x).map f)) (he:ys=l.map f:=by first|exact rfl|exact Lj _|exact M2 _|exact J1 _) (hp:p=f x:=by exact rfl) (hi:i=n/\j=(n:Int):=by first|exact⟨Nat.zero_add _,by assumption⟩|exact⟨rfl,by assumption⟩|exact⟨rfl,An8 _ (by assumption)⟩):Vc ys i p K:=Mr he hp hi.1 hi.2 k
theorem Ov {α:Type} {l ys:List α} {f:α->AV} {xs zs:List AV} {b kk len:Nat} {m:List α->Option β} {K:List AV->Nat->Prop} {KP:List AV->Nat->Nat->Prop} (h:(Cj b l ys).bind m=some r) (k:∀o:List α,m o=some r->K (o.map f) o.length) (he:xs=l.map f/\zs=ys.map f:=by first|exact⟨rfl,rfl⟩ | (refine⟨?_,?_⟩;rotate_left;exact rfl;exact rfl)) (hk:kk=l.length:=by first|exact rfl|assumption|exact Jz (by assumption) | ((repeat refine I5 ?_ _ _);first|exact rfl|assumption)) (hl:len=l.length:=by first|exact rfl|assumption|exact Jz (by assumption) | ((repeat refine I5 ?_ _ _);first|exact rfl|assumption)):Oe xs zs kk len b K KP:=S9 he.1 he.2 hk hl h k
theorem Ape {l:List Int} {s:ByteArray} {xs:List AV} {b kk len:Nat} {m:List Int->Option β} {K:List AV->Nat->Prop} {KP:List AV->Nat->Nat->Prop} (h:(Cj b l (Nq s)).bind m=some r) (k:∀o:List Int,m o=some r->K (o.map λn=>.val (.int .u8 n)) o.length) (he:xs=l.map λn=>.val (.int .u8 n):=by exact rfl) (hk:kk=l.length:=by first|exact rfl|assumption|exact Jz (by assumption) | ((repeat refine I5 ?_ _ _);first|exact rfl|assumption)) (hl:len=l.length:=by first|exact rfl|assumption|exact Jz (by assumption) | ((repeat refine I5 ?_ _ _);first|exact rfl|assumption)):Oe xs (Jw s) kk len b K KP:=A05 he hk hl h k
class GL {α:Type} (g:List α->List AV) (f:outParam (α->AV)):Prop where
 eq:∀l,g l=l.map f
instance:GL Br E3:=⟨Lj⟩
instance:GL J9 Hb:=⟨M2⟩
instance:GL Ha Gf:=⟨J1⟩
theorem Ai5 {α:Type} {g:List α->List AV} {f:α->AV} [i:GL g f] {l ys:List α} {zs:List AV} {b kk len:Nat} {m:List α->Option β} {K:List AV->Nat->Prop} {KP:List AV->Nat->Nat->Prop} (h:(Cj b l ys).bind m=some r) (k:∀o:List α,m o=some r->K (g o) o.length) (hz:zs=ys.map f:=by first|exact rfl|exact GL.eq _) (hk:kk=l.length:=by first|exact rfl|assumption|exact Jz (by assumption) | ((repeat refine I5 ?_ _ _);first|exact rfl|assumption)) (hl:len=l.length:=by first|exact rfl|assumption|exact Jz (by assumption) | ((repeat refine I5 ?_ _ _);first|exact rfl|assumption)):Oe (g l) zs kk len b K KP:=A06 i.eq (i.eq l) hz hk hl h k
theorem Apf {α:Type} {ys:List α} {f:α->AV} {zs:List AV} {b:Nat} {m:List α->Option β} {K:List AV->Nat->Prop} (h:(Cj b [] ys).bind m=some r) (k:∀o:List α,m o=some r->K (o.map f) o.length) (hz:zs=ys.map f:=by exact rfl):Sy zs b K:=Aoj hz h k
theorem Apg {α:Type} {g:List α->List AV} {f:α->AV} [i:GL g f] {ys:List α} {zs:List AV} {b:Nat} {m:List α->Option β} {K:List AV->Nat->Prop} (h:(Cj b [] ys).bind m=some r) (k:∀o:List α,m o=some r->K (g o) o.length) (hz:zs=g ys:=by exact rfl):Sy zs b K:=A07 i.eq (hz.trans (i.eq ys)) h k
theorem Iv {α:Type} {z:α} {f:α->AV} {za:AV} {len cap:Int} {b:Nat} {m:List α->Option β} {K:Nat->List AV->Prop} (h:(F4 b len cap z).bind m=some r) (k:∀o:List α,m o=some r->K o.length (o.map f)) (hz:za=f z:=by first|exact (rfl:_=O _ _) | exact (rfl:_=Au _) | exact rfl):Vb len cap b za K:=A08 hz h k
theorem Nz {α:Type} {l:List α} {f:α->AV} {ys:List AV} {lo hi:Int} {m:List α->Option β} {K:List AV->Prop} (h:(F7 l lo hi).bind m=some r) (k:∀l':List α,m l'=some r->K (l'.map f)) (he:ys=l.map f:=by first|exact rfl|exact Lj _|exact M2 _|exact J1 _):Sx ys lo hi K:=Aoi he h k
theorem Aef {α:Type} {l:List α} {f:α->AV} {ys:List AV} {lo:Int} {m:List α->Option β} {K:List AV->Prop} (h:(F7 l lo l.length).bind m=some r) (k:∀l':List α,m l'=some r->K (l'.map f)) (he:ys=l.map f:=by first|exact rfl|exact Lj _|exact M2 _|exact J1 _):Sx ys lo ys.length K:=A04 he h k
theorem E9 {S E:Type} {step:S->Option (S⊕E)} {s0:S} {J:E->Option β} {b:Code} (h:(An step s0).bind J=some r) (iv:S->List (Nat×AV)) (hv:S->List (Nat×Bu)) (inv:S->Prop) (body:∀(s:S) (u:Nat->Value) (K:Nat->B6->Hp->Prop) (o:S⊕E),step s=some o->(∀x,.inr x=o->J x=some r)->(∀s' n' e' H',.inl s'=o->Hv e' (iv s')->Hw H' (C2 H (hv s')) n n->inv s'->K n' e' H')->inv s -> wc P C b K Qe Qr n (La (F3 b) e u (iv s)) (C2 H (hv s))) (hb:∀s,L0 n (iv s) (hv s)=true:=by exact λ_=>rfl) (hs:Hv e (iv s0):=by (repeat refine⟨rfl,?_⟩);exact trivial) (hh:Hw H (C2 H (hv s0)) n n:=by (repeat refine⟨⟨rfl,rfl⟩,?_⟩);exact trivial) (h0:inv s0:=by first|exact rfl|assumption|exact Jz (by assumption) | ((repeat refine I5 ?_ _ _);first|exact rfl|assumption)):wc P C (.loop b) Qn Qe Qr n e H:=Aoq h iv hv inv hb hs hh h0 body
theorem Bd {S E:Type} {step:S->Option (S⊕E)} {s0:S} {J:E->Option β} {b:Code} (h:(An step s0).bind J=some r) (iv:S->List (Nat×AV)) (hv:S->List (Nat×Bu)) (body:∀(s:S) (u:Nat->Value) (K:Nat->B6->Hp->Prop) (o:S⊕E),step s=some o->(∀x,.inr x=o->J x=some r)->(∀s' n' e' H',.inl s'=o->Hv e' (iv s')->Hw H' (C2 H (hv s')) n n->True->K n' e' H') -> wc P C b K Qe Qr n (La (F3 b) e u (iv s)) (C2 H (hv s))) (hb:∀s,L0 n (iv s) (hv s)=true:=by exact λ_=>rfl) (hs:Hv e (iv s0):=by (repeat refine⟨rfl,?_⟩);exact trivial) (hh:Hw H (C2 H (hv s0)) n n:=by (repeat refine⟨⟨rfl,rfl⟩,?_⟩);exact trivial):wc P C (.loop b) Qn Qe Qr n e H:=Aoq h iv hv (λ_=>True) hb hs hh trivial λs u K o h1 h2 h3 _=>body s u K o h1 h2 h3
theorem Ai6 {S S':Type} {c:Code} {o:Option S'} {m:S'->Option β} (inj:S->S') (h:o.bind m=some r) (iv:S->List (Nat×AV)) (hv:S->List (Nat×Bu)) (k1:∀x,o=some x->∀(K:Nat->B6->Hp->Prop),(∀s n' e' H',inj s=x->Hv e' (iv s)->Hw H' (C2 H (hv s)) n n->K n' e' H')->(∀y,y=x->m y=some r)->wc P C c K Qe Qr n e H) (k2:∀(s:S) (u:Nat->Value),m (inj s)=some r->Qn n (La (F3 c) e u (iv s)) (C2 H (hv s))) (hb:∀s,L0 n (iv s) (hv s)=true:=by exact λ_=>rfl):wc P C c Qn Qe Qr n e H := Aob h λx hx hj=>Tc (λs=>inj s=x) iv hv hb (λK hK=>k1 x hx K hK hj) λs u hs=>k2 s u (hj _ hs)
theorem Cq {S:Type} {c:Code} {o:Option S} {m:S->Option β} (h:o.bind m=some r) (iv:S->List (Nat×AV)) (hv:S->List (Nat×Bu)) (k1:∀x,o=some x->∀(K:Nat->B6->Hp->Prop),(∀s n' e' H',s=x->Hv e' (iv s)->Hw H' (C2 H (hv s)) n n->K n' e' H')->(∀y,y=x->m y=some r)->wc P C c K Qe Qr n e H) (k2:∀(s:S) (u:Nat->Value),m s=some r->Qn n (La (F3 c) e u (iv s)) (C2 H (hv s))) (hb:∀s,L0 n (iv s) (hv s)=true:=by exact λ_=>rfl):wc P C c Qn Qe Qr n e H:=Ai6 (λs=>s) h iv hv k1 k2 hb
abbrev C0:Cfg:={T:=Ci,an:=λ_=>.ask}
theorem pw {f:FuncId} {fn:Func} {c:Code} {args:List AV} {r:AV} (C:Cfg) (hf:prog.funcs[f]? = some fn) (hv:wc prog C c (λ_ e H=>S3 C.T fn.results.toList (· = r) e H) (λ_ _ _ _=>False) (λ_ e H=>S3 C.T fn.results.toList (· = r) e H) 0 (Vi args) H0) (hT:C.T=Ci:=by exact rfl) (hb:fn.body=some c:=by exact rfl) (hname:(fn.name == "runtime.NumGoroutine")=false:=by kernel_rfl) (hok:Vj fn c args.length=true:=by kernel_rfl) (hfree:r.free=true:=by exact rfl):Az prog f args r:=A1b (by rw[hT];exact Aot) Ya hf hb hname hok hfree hv
theorem aw {f:FuncId} {fn:Func} {c:Code} {args:List AV} {r:AV} {hs hs':List Bu} (C:Cfg) (fz:Bool) (hf:prog.funcs[f]? = some fn) (hv:wc prog C c (λ_ e H=>S6 C.T fz fn.results.toList r hs' e H) (λ_ _ _ _=>False) (λ_ e H=>S6 C.T fz fn.results.toList r hs' e H) hs.length (Vi args) (hp hs)) (hT:C.T=Ci:=by exact rfl) (hb:fn.body=some c:=by exact rfl) (hname:(fn.name == "runtime.NumGoroutine")=false:=by kernel_rfl) (hok:Vj fn c args.length=true:=by kernel_rfl) (hok':Ah5 hs r hs'=true:=by exact rfl):Bt prog f args hs r hs':=A1c fz (by rw[hT];exact Aot) Ya hf hb hname hok hok' hv
end
theorem opk {P:Program} {T:C6} {an:Nat->Ann} {nl:Nat->List (Nat×Nat)} {o:Oper} {n:Nat} {e:B6} {H:Hp} {acc:Jc} {K:Nat->B6->Hp->Jc->Prop} (k:opK P T an nl o n e H acc K):opK P T an nl o n e H acc K:=k
theorem cnd {t:Bool} {A B:Prop} (k:bif t then A else B):bif t then A else B:=k
structure Hd (Q:Prop):Prop where
 get:Q
theorem Z {P Q:Prop} (k:Q) (h:Hd Q->P:=by
  intro q
  repeat first
    | ((with_reducible show Fw (Fi _ _ _ _ _ (_::_) _ _ _ _ _));(first|refine nx ?_|refine Qx ?_|refine Qw ?_))
    | ((with_reducible refine opk ?_);conv=>whnf
       first
      | ((with_reducible show Fw _);refine nw ?_)
      | ((with_reducible show Iq _ _ _);refine Iq.mk _ rfl ?_)
      | ((with_reducible show Nk _ _);refine Ru ?_)
      | ((with_reducible show Mm _ _ _ _);refine Rx ?_)
      | ((with_reducible show Hf _ _ _);(first|refine Rv ?_|refine Rw ?_)))
    | ((with_reducible show Fw (Fi _ _ _ _ _ [] _ _ _ _ _));refine L1 ?_)
    | ((with_reducible show Fw (wc _ _ _ _ _ _ _ _ _));refine nw ?_)
    | with_reducible refine A9 ?_
    | with_reducible refine Cm ?_
    | with_reducible refine Aid ?_
    | with_reducible refine Kp ?_
    | with_reducible refine Lc ?_
    | with_reducible refine G9 ?_
    | with_reducible refine Aon ?_
    | with_reducible refine Aif ?_
    | with_reducible refine Aie ?_
    | ((with_reducible refine cnd ?_);first|refine G7 rfl ?_|refine Ah0 rfl ?_)
    | ((with_reducible show No _ _ _);refine No.mk κ ?_)
    | ((with_reducible show wc _ _ (.cond _ _ _) _ _ _ _ _ _);first|refine Adb ?_|refine Adc ?_)
    | refine nw ?_
    | refine nx ?_
    | refine L1 ?_
    | refine Qx ?_
    | refine Qw ?_
    | (conv=>whnf
       first
      | ((with_reducible show Fw _);refine nw ?_)
      | ((with_reducible show Iq _ _ _);refine Iq.mk _ rfl ?_)
      | ((with_reducible show Nk _ _);refine Ru ?_)
      | ((with_reducible show Mm _ _ _ _);refine Rx ?_)
      | ((with_reducible show Hf _ _ _);(first|refine Rv ?_|refine Rw ?_)))
  exact q.get):P:=h ⟨k⟩
theorem ZS {P Q:Prop} (k:Q) (h:Hd Q->P:=by
  intro q
  repeat first
    | ((with_reducible show Fw (Fi _ _ _ _ _ (_::_) _ _ _ _ _));(first|refine nx ?_|refine Qx ?_|refine Qw ?_))
    | ((with_reducible refine opk ?_);conv=>whnf
       first
      | ((with_reducible show Fw _);refine nw ?_)
      | ((with_reducible show Iq _ _ _);refine Iq.mk _ rfl ?_)
      | ((with_reducible show Nk _ _);refine Ru ?_)
      | ((with_reducible show Mm _ _ _ _);refine Rx ?_)
      | ((with_reducible show Hf _ _ _);(first|refine Rv ?_|refine Rw ?_)))
    | ((with_reducible show Fw (Fi _ _ _ _ _ [] _ _ _ _ _));refine L1 ?_)
    | ((with_reducible show Fw (wc _ _ _ _ _ _ _ _ _));refine nw ?_)
    | with_reducible refine A9 ?_
    | with_reducible refine Aid ?_
    | with_reducible refine Kp ?_
    | with_reducible refine Lc ?_
    | with_reducible refine G9 ?_
    | with_reducible refine Aif ?_
    | with_reducible refine Aie ?_
    | ((with_reducible refine cnd ?_);first|refine G7 rfl ?_|refine Ah0 rfl ?_)
    | ((with_reducible show No _ _ _);refine No.mk κ ?_)
    | ((with_reducible show wc _ _ (.cond _ _ _) _ _ _ _ _ _);first|refine Adb ?_|refine Adc ?_)
    | refine nw ?_
    | refine nx ?_
    | refine L1 ?_
    | refine Qx ?_
    | refine Qw ?_
    | (conv=>whnf
       first
      | ((with_reducible show Fw _);refine nw ?_)
      | ((with_reducible show Iq _ _ _);refine Iq.mk _ rfl ?_)
      | ((with_reducible show Nk _ _);refine Ru ?_)
      | ((with_reducible show Mm _ _ _ _);refine Rx ?_)
      | ((with_reducible show Hf _ _ _);(first|refine Rv ?_|refine Rw ?_)))
  exact q.get):P:=h ⟨k⟩
theorem ZO {P Q:Prop} (k:Q) (h:Hd Q->P:=by
  intro q
  repeat first
    | ((with_reducible show Fw (Fi _ _ _ _ _ (_::_) _ _ _ _ _));(first|refine nx ?_|refine Qx ?_|refine Qw ?_))
    | ((with_reducible refine opk ?_);conv=>whnf
       first
      | ((with_reducible show Iq _ _ _);refine Iq.mk _ rfl ?_)
      | ((with_reducible show Nk _ _);refine Ru ?_)
      | ((with_reducible show Mm _ _ _ _);refine Rx ?_)
      | ((with_reducible show Hf _ _ _);(first|refine Rv ?_|refine Rw ?_)))
    | ((with_reducible show Fw (Fi _ _ _ _ _ [] _ _ _ _ _));refine L1 ?_)
    | ((with_reducible show No _ _ _);refine No.mk κ ?_)
    | refine nx ?_
    | refine L1 ?_
    | refine Qx ?_
    | refine Qw ?_
    | (conv=>whnf
       first
      | ((with_reducible show Iq _ _ _);refine Iq.mk _ rfl ?_)
      | ((with_reducible show Nk _ _);refine Ru ?_)
      | ((with_reducible show Mm _ _ _ _);refine Rx ?_)
      | ((with_reducible show Hf _ _ _);(first|refine Rv ?_|refine Rw ?_)))
  exact q.get):P:=h ⟨k⟩
theorem Y {P:Prop} (h:P:=by
  repeat' first
    | ((with_reducible show Fw (Fi _ _ _ _ _ (_::_) _ _ _ _ _));first|refine nx ?_|refine Qx ?_|refine Qw ?_|refine Gp h (λ_ h=>?_) (λ_ h=>?_))
    | ((with_reducible refine opk ?_);conv=>whnf
       first
      | ((with_reducible show Fw _);refine nw ?_)
      | ((with_reducible show Iq _ _ _);refine Iq.mk _ rfl ?_)
      | ((with_reducible show Nk _ _);refine Ru ?_)
      | ((with_reducible show Gb _ _ _ _ _ _);(first|refine Bm h (λ_ h=>?_) | refine Apc h (λ_ h=>?_)))
      | ((with_reducible show X5 _ _ _);refine Bz h (λ_ _ _ _ h=>?_))
      | ((with_reducible show Sw _ _ _ _ _);(first|refine Je h (λ_ _ _ _ h=>?_) | refine M3 h (λ_ _ _ _ h=>?_)))
      | ((with_reducible show Mm _ _ _ _);refine Rx ?_)
      | ((with_reducible show Vc _ _ _ _);refine Apd ?_)
      | ((with_reducible show Oe _ _ _ _ _ _ _);(first|refine Ape h (λ_ h=>?_) | refine Ov h (λ_ h=>?_) | refine Ai5 h (λ_ h=>?_)))
      | ((with_reducible show Sy _ _ _);(first|refine Apf h (λ_ h=>?_) | refine Apg h (λ_ h=>?_)))
      | ((with_reducible show Vb _ _ _ _ _);refine Iv h (λ_ h=>?_))
      | ((with_reducible show Sx _ _ _ _);(first|refine Aef h (λ_ h=>?_) | refine Nz h (λ_ h=>?_)))
      | ((with_reducible show Hf _ _ _);(first|refine Rv ?_|refine Rw ?_))
      | ((with_reducible show Acp _ _ _);refine Yg h (λ_ h=>?_))
      | ((with_reducible show Ack _ _ _ _);refine Yf h (λ_ h=>?_))
      | ((with_reducible show Acl _ _ _);refine Ac9 h (λ_ h=>?_))
      | ((with_reducible show Ahn _ _ _ _);refine ob_shl h (λ_ h=>?_))
      | ((with_reducible show Acm _ _ _ _);refine Aol h (λ_ h=>?_))
      | ((with_reducible show Acn _ _ _ _);refine Aib h (λ_ _ _ _ h=>?_))
      | ((with_reducible show Acq _ _);refine H7 h (λh=>?_))
      | ((with_reducible show Acr _ _ _ _ _);refine Aog h (λ_ h=>?_))
      | ((with_reducible show Acs _ _ _ _);refine Aoh h (λ_ h=>?_)))
    | ((with_reducible show Fw (Fi _ _ _ _ _ [] _ _ _ _ _));refine L1 ?_)
    | ((with_reducible show Fw (wc _ _ _ _ _ _ _ _ _));refine nw ?_)
    | with_reducible refine A9 ?_
    | with_reducible refine Cm ?_
    | with_reducible refine Aid ?_
    | with_reducible refine Kp ?_
    | with_reducible refine Lc ?_
    | with_reducible refine G9 ?_
    | with_reducible refine Aon ?_
    | with_reducible refine Aif ?_
    | with_reducible refine Aie ?_
    | ((with_reducible refine cnd ?_);first|refine G7 rfl ?_|refine Ah0 rfl ?_)
    | ((with_reducible show wc _ _ (.cond _ _ _) _ _ _ _ _ _);first|refine Aq h (λ_ h=>?_) (λ_ h=>?_) | refine Adb ?_|refine Adc ?_)
    | ((with_reducible show No _ _ _);refine No.mk κ ?_)
    | refine nx ?_
    | refine L1 ?_
    | refine Qx ?_
    | refine Qw ?_
    | refine Gp h (λ_ h=>?_) (λ_ h=>?_)
    | exact lpn h
    | exact jnn h
    | replace h:=Ct h
    | replace h:=lpj h
    | refine nw ?_
    | (conv=>whnf
       first
      | ((with_reducible show Fw _);refine nw ?_)
      | ((with_reducible show Iq _ _ _);refine Iq.mk _ rfl ?_)
      | ((with_reducible show Nk _ _);refine Ru ?_)
      | ((with_reducible show Gb _ _ _ _ _ _);(first|refine Bm h (λ_ h=>?_) | refine Apc h (λ_ h=>?_)))
      | ((with_reducible show X5 _ _ _);refine Bz h (λ_ _ _ _ h=>?_))
      | ((with_reducible show Sw _ _ _ _ _);(first|refine Je h (λ_ _ _ _ h=>?_) | refine M3 h (λ_ _ _ _ h=>?_)))
      | ((with_reducible show Mm _ _ _ _);refine Rx ?_)
      | ((with_reducible show Vc _ _ _ _);refine Apd ?_)
      | ((with_reducible show Oe _ _ _ _ _ _ _);(first|refine Ape h (λ_ h=>?_) | refine Ov h (λ_ h=>?_) | refine Ai5 h (λ_ h=>?_)))
      | ((with_reducible show Sy _ _ _);(first|refine Apf h (λ_ h=>?_) | refine Apg h (λ_ h=>?_)))
      | ((with_reducible show Vb _ _ _ _ _);refine Iv h (λ_ h=>?_))
      | ((with_reducible show Sx _ _ _ _);(first|refine Aef h (λ_ h=>?_) | refine Nz h (λ_ h=>?_)))
      | ((with_reducible show Hf _ _ _);(first|refine Rv ?_|refine Rw ?_))
      | ((with_reducible show Acp _ _ _);refine Yg h (λ_ h=>?_))
      | ((with_reducible show Ack _ _ _ _);refine Yf h (λ_ h=>?_))
      | ((with_reducible show Acl _ _ _);refine Ac9 h (λ_ h=>?_))
      | ((with_reducible show Ahn _ _ _ _);refine ob_shl h (λ_ h=>?_))
      | ((with_reducible show Acm _ _ _ _);refine Aol h (λ_ h=>?_))
      | ((with_reducible show Acn _ _ _ _);refine Aib h (λ_ _ _ _ h=>?_))
      | ((with_reducible show Acq _ _);refine H7 h (λh=>?_))
      | ((with_reducible show Acr _ _ _ _ _);refine Aog h (λ_ h=>?_))
      | ((with_reducible show Acs _ _ _ _);refine Aoh h (λ_ h=>?_)))
    | (have h:=Option.some.inj h;subst h;exact rfl)
    | (cases h;(repeat refine⟨rfl,?_⟩);exact trivial)
    | (cases h;done)
):P:=h
set_option maxRecDepth 10000
set_option linter.unusedVariables false
theorem A1t {a0 r:List Bk} (h:Cj 16 [] a0=some r):Az prog 188 [Ar 2 Dr a0] (Ar 2 Dr r):=by
 have h:((Cj 16 [] a0).bind λo=>some o)=some r:=by rw[h];rfl
 refine pw {T:=Ci,an:=(λs=>bif Nat.beq s 5 then .own else .ask),nl:=(λs=>bif Nat.beq s 2 then [(0,2)] else [])} func188 ?_;refine A9 ?_;refine Cm ?_;refine ZO ?_;refine A9 (A9 ?_);refine Tc (λb:Bool=>b=true->a0 = []) (λb=>[(4,Au b)]) (λ_=>[]) (λ_=>rfl) ?_ ?_
 .intro K hK;refine Yh 0 ?_;intro v hv;obtain⟨p,c,rfl,hp⟩:=hv 2 (a0.map Dr) rfl;refine Cm ?_;refine nx ?_;refine nx ?_;refine L1 ?_;refine hK p.isNone _ _ _ (λe=>?_) ⟨rfl,trivial⟩ trivial;cases p with| none=>simpa using hp rfl| some _=>cases e
 .rintro b _ hb;cases b with
  | true=>have hb:=hb rfl;subst hb;have h:some ([]:List Bk)=some r:=(by rw[<-h];rfl);exact Y
  | false=>refine Z ?_;exact Y
theorem A1u {a0:List Bk} {r:List Bk×List Bk} (h:Ld 16 a0=some r):Bt prog 188 [Ar 2 Dr a0] [] (.arr 1 r.2.length 0 r.2.length) [.rows 50 2 (r.1.map Dr),.rows 50 2 (r.2.map Dr)]:=by
 have h:((Cj 16 [] a0).bind λo=>some (([]:List Bk),o))=some r:=h;refine aw {T:=Ci,an:=(λs=>bif Nat.beq s 5 then .own else bif Nat.beq s 2 then .own else .ask),nl:=(λ_=>[])} false func188 ?_;refine A9 ?_;refine Cm ?_;refine ZO ?_;refine A9 (A9 ?_);refine Tc (λb:Bool=>b=true->a0 = []) (λb=>[(4,Au b)]) (λ_=>[]) (λ_=>rfl) ?_ ?_
 .intro K hK;refine Yh 0 ?_;intro v hv;obtain⟨p,c,rfl,hp⟩:=hv 2 (a0.map Dr) rfl;refine Cm ?_;refine nx ?_;refine nx ?_;refine L1 ?_;refine hK p.isNone _ _ _ (λe=>?_) ⟨rfl,trivial⟩ ⟨⟨rfl,rfl⟩,trivial⟩;cases p with| none=>simpa using hp rfl| some _=>cases e
 .rintro b _ hb;cases b with
  | true=>have hb:=hb rfl;subst hb;have h:some (([]:List Bk),([]:List Bk))=some r:=(by rw[<-h];rfl);cases h;refine ZO ?_;exact Y
  | false=>refine Z ?_;refine ZO ?_;refine Ov h (λ_ h=>?_);exact Y
theorem A1v {a0:List Ca} {r:List Ca×List Ca} (h:Ld 40 a0=some r):Bt prog 206 [Ar 3 Fg a0] [] (.arr 1 r.2.length 0 r.2.length) [.rows 94 3 (r.1.map Fg),.rows 94 3 (r.2.map Fg)]:=by
 have h:((Cj 40 [] a0).bind λo=>some (([]:List Ca),o))=some r:=h;refine aw {T:=Ci,an:=(λs=>bif Nat.beq s 5 then .own else bif Nat.beq s 2 then .own else .ask),nl:=(λ_=>[])} false func206 ?_;refine A9 ?_;refine Cm ?_;refine ZO ?_;refine A9 (A9 ?_);refine Tc (λb:Bool=>b=true->a0 = []) (λb=>[(4,Au b)]) (λ_=>[]) (λ_=>rfl) ?_ ?_
 .intro K hK;refine Yh 0 ?_;intro v hv;obtain⟨p,c,rfl,hp⟩:=hv 3 (a0.map Fg) rfl;refine Cm ?_;refine nx ?_;refine nx ?_;refine L1 ?_;refine hK p.isNone _ _ _ (λe=>?_) ⟨rfl,trivial⟩ ⟨⟨rfl,rfl⟩,trivial⟩;cases p with| none=>simpa using hp rfl| some _=>cases e
 .rintro b _ hb;cases b with
  | true=>have hb:=hb rfl;subst hb;have h:some (([]:List Ca),([]:List Ca))=some r:=(by rw[<-h];rfl);cases h;refine ZO ?_;exact Y
  | false=>refine Z ?_;refine ZO ?_;refine Ov h (λ_ h=>?_);exact Y
theorem A1w {a0:List Be} {r:List Be×List Be} (h:Ld 40 a0=some r):Bt prog 212 [Ar 3 Ff a0] [] (.arr 1 r.2.length 0 r.2.length) [.rows 55 3 (r.1.map Ff),.rows 55 3 (r.2.map Ff)]:=by
 have h:((Cj 40 [] a0).bind λo=>some (([]:List Be),o))=some r:=h;refine aw {T:=Ci,an:=(λs=>bif Nat.beq s 5 then .own else bif Nat.beq s 2 then .own else .ask),nl:=(λ_=>[])} false func212 ?_;refine A9 ?_;refine Cm ?_;refine ZO ?_;refine A9 (A9 ?_);refine Tc (λb:Bool=>b=true->a0 = []) (λb=>[(4,Au b)]) (λ_=>[]) (λ_=>rfl) ?_ ?_
 .intro K hK;refine Yh 0 ?_;intro v hv;obtain⟨p,c,rfl,hp⟩:=hv 3 (a0.map Ff) rfl;refine Cm ?_;refine nx ?_;refine nx ?_;refine L1 ?_;refine hK p.isNone _ _ _ (λe=>?_) ⟨rfl,trivial⟩ ⟨⟨rfl,rfl⟩,trivial⟩;cases p with| none=>simpa using hp rfl| some _=>cases e
 .rintro b _ hb;cases b with
  | true=>have hb:=hb rfl;subst hb;have h:some (([]:List Be),([]:List Be))=some r:=(by rw[<-h];rfl);cases h;refine ZO ?_;exact Y
  | false=>refine Z ?_;refine ZO ?_;refine Ov h (λ_ h=>?_);exact Y
theorem A1x {a0:List As} {r:List As×List As} (h:Ld 32 a0=some r):Bt prog 192 [Ar 2 Dn a0] [] (.arr 1 r.2.length 0 r.2.length) [.rows 53 2 (r.1.map Dn),.rows 53 2 (r.2.map Dn)]:=by
 have h:((Cj 32 [] a0).bind λo=>some (([]:List As),o))=some r:=h;refine aw {T:=Ci,an:=(λs=>bif Nat.beq s 5 then .own else bif Nat.beq s 2 then .own else .ask),nl:=(λ_=>[])} false func192 ?_;refine A9 ?_;refine Cm ?_;refine ZO ?_;refine A9 (A9 ?_);refine Tc (λb:Bool=>b=true->a0 = []) (λb=>[(4,Au b)]) (λ_=>[]) (λ_=>rfl) ?_ ?_
 .intro K hK;refine Yh 0 ?_;intro v hv;obtain⟨p,c,rfl,hp⟩:=hv 2 (a0.map Dn) rfl;refine Cm ?_;refine nx ?_;refine nx ?_;refine L1 ?_;refine hK p.isNone _ _ _ (λe=>?_) ⟨rfl,trivial⟩ ⟨⟨rfl,rfl⟩,trivial⟩;cases p with| none=>simpa using hp rfl| some _=>cases e
 .rintro b _ hb;cases b with
  | true=>have hb:=hb rfl;subst hb;have h:some (([]:List As),([]:List As))=some r:=(by rw[<-h];rfl);cases h;refine ZO ?_;exact Y
  | false=>refine Z ?_;refine ZO ?_;refine Ov h (λ_ h=>?_);exact Y
end Go.Ab
namespace Go.Ab
open Go Go.Proofs Go.Shelf Go.Proofs.Tryz
set_option maxRecDepth 100000
set_option linter.unusedVariables false
def A1y:Ren:={f:=λx=>match x with|189=>56|125=>102|257=>101|128=>171|129=>172|294=>162|295=>163|296=>164|297=>165|298=>166|299=>167|216=>168|300=>169|301=>170|328=>240|329=>241|330=>242|331=>243|332=>244|215=>238|343=>287|n=>n,t:=λx=>match x with|28=>81|3=>3|46=>168|0=>0|51=>101|53=>100|4=>4|183=>236|182=>235|131=>194|5=>5|9=>9|218=>317|222=>133|228=>364|229=>365|n=>n,g:=λn=>n}
theorem A1z:Lays.n189 prog A1y:=by
 constructor;all_goals first|kernel_rfl | (intro w;kernel_rfl) | constructor
 all_goals first|kernel_rfl | (intro w;kernel_rfl)
theorem C1.up {σ:A5} {ι:B9} {H:Hp} {F:A5} {w w':World} {x:Nat} (h:C1 σ ι H F w x) (hk:∀(b:Nat) (o:Obj),w.heap[b]? = some o->w'.heap[b]? = some o):C1 σ ι H F w' x:=by
 unfold C1 at h ⊢;cases hx:H x with
 | none=>rw[hx]at h;exact h
 | dead=>trivial
 | cells E cs=>rw[hx]at h;obtain⟨b,C,h1,h2,h3,g,f⟩:=h;exact⟨b,C,h1,h2,h3,hk _ _ g,f⟩
 | rows E sz xs=>
  rw[hx]at h;obtain⟨h0,h1,h2⟩:=h;refine⟨h0,h1,?_⟩;rcases h2 with h2|⟨b,c,C,l,k,j,e4,i⟩
  .exact .inl h2
  .exact .inr ⟨b,c,C,l,k,j,hk _ _ e4,i⟩
 | map es=>rw[hx]at h;obtain⟨b,M,t,h1,h2,h3,g,f⟩:=h;exact⟨b,M,t,h1,h2,h3,hk _ _ g,f⟩
theorem St.growG {σ:A5} {ι:B9} {H:Hp} {F:A5} {W w:World} (s:St σ ι H F W w) (k:Nat) (os:Array Obj):St σ ι H F W (Sort.grow (Sort.ahead w k) os):=by
 have hk:∀(b:Nat) (o:Obj),w.heap[b]? = some o->(Sort.grow (Sort.ahead w k) os).heap[b]? = some o:=by intro b o h;have c:=(Array.getElem?_eq_some_iff.1 h).1;show (w.heap++os)[b]? = _;rw[Array.getElem?_append_left c];exact h
 exact⟨λb o h=>hk b o (s.sto b o h),λb o h=>⟨hk b o (s.fra b o h).1,(s.fra b o h).2⟩,λh=>(s.obj h).up hk,s.inj,s.os,s.tape,s.output,s.glo,Nat.le_trans s.drw (Nat.le_add_right _ _)⟩
theorem Aph {α:Type} [Inhabited α] (enc:α->Value) (w:World) (b:Nat) (d:Array α) (C:Array Value) (E:TypeId) (h:w.heap[b]? = some (.cells C E (0,0))):Sort.putRow enc w b 0 d=w.setRow b (Sort.putCells enc 0 d C):=by
 have c:(Sort.putRow enc w b 0 d).heap=(w.setRow b (Sort.putCells enc 0 d C)).heap:=by
  apply Array.ext_getElem?;intro i;simp only[Sort.putRow,Sort.mapBlock,World.setRow,Array.getElem?_modify];split
  .rename_i e;subst e;rw[h];simp[Sort.onCells]
  .rfl
 unfold Sort.putRow Sort.mapBlock World.setRow at c ⊢;simp only at c;rw[c]
theorem A10 {b r:List Int} (h:An9 b=some r) (M:b≠[]):Bt prog 56 [.arr 0 b.length 0 b.length] [.rows 3 1 (List.map (O .i64) b)] (.tup []) [.rows 3 1 (List.map (O .i64) r)]:=by
 cases h
 .skip;refine⟨⟨_,func56,κ,κ⟩,λσ F W w ι vs s J=>?_⟩;obtain⟨v,rfl,hv⟩:=Ug J;have hh:hp [.rows 3 1 (List.map (O .i64) b)] 0 = .rows 3 1 (List.map (O .i64) b):=rfl;have l:=hv.arr_inv hh ψ;have hor:=s.obj 0;unfold C1 at hor;rw[hh]at hor;obtain⟨_,G,hor⟩:=hor;rw[List.length_map]at G;rcases hor with⟨_,E⟩|⟨g,q,D,hg,g1,g2,g3,g4,g5,g6⟩
  .exact (M (by simpa using E)).elim
  .rw[List.length_map]at g5;unfold G4 at l;rw[hg]at l;simp only[Nat.zero_mul,Nat.zero_add,Nat.sub_zero]at l;obtain⟨ht,B⟩:=l;subst B;have k:∀(j:Nat) (x:Int),b[j]? = some x->D[j]? = some (Value.int .i64 x):=(by intro j x hx;obtain⟨Y,q1,q2,Z⟩:=g6;have A:(List.map (O .i64) b)[j]? = some (O .i64 x):=(by rw[List.getElem?_map,hx];rfl);have N:j<(List.map (O .i64) b).length:=(List.getElem?_eq_some_iff.1 A).1;have V:=Z j 0 N ω;have U:=(q2 j _ 0 _ A rfl).1;have:Y j 0=Value.int .i64 x:=(by generalize Y j 0=z at U;cases U;rfl);rw[this]at V;simpa using V);have hH:Sort.Holds (Value.int .i64) w g 0 b.toArray:=by
    intro j hj;have hj':j<b.length:=(by simpa using hj);have hx:b[j]? = some b[j]:=List.getElem?_eq_getElem hj';have hD:=k j _ hx;have e1:b.toArray[j]! = b[j]:=(by rw[getElem!_pos b.toArray j hj];simp);rw[e1];refine⟨?_,?_⟩
    .rw[Nat.zero_add,J6 g3];exact hD
    .simp[World.frozen?,g3]
   have call:=Any.slices_Sort_int A1z g 0 q b w hH (Array.getElem?_eq_some_iff.1 g3).1 ω;refine call.mono ?_;rintro e w' ⟨rfl,n,os,rfl⟩;generalize hr:b.mergeSort (λx y=>decide (x<=y))=r;have I:r.length=b.length:=(by rw[<-hr];exact List.length_mergeSort b);have L:(Sort.putCells (Value.int .i64) 0 r.toArray D).size=q*1:=(by unfold Sort.putCells;rw[Array.size_mapIdx];exact g4);obtain⟨s',le⟩:=s.setRows 0 3 1 _ (List.map (O .i64) r) hh g q hg (by simp[I]) (Sort.putCells (Value.int .i64) 0 r.toArray D) L (by
    refine⟨λi _=>match r[i]? with|some z=>.int .i64 z|none=>.bool false,?_,?_,?_⟩
    .intro i x hx;rw[List.getElem?_map]at hx;obtain⟨z,X,rfl⟩:=Option.map_eq_some_iff.1 hx;rfl
    .intro i x j c hx f;rw[List.getElem?_map]at hx;obtain⟨z,X,rfl⟩:=Option.map_eq_some_iff.1 hx;have f:([O .i64 z]:List AV)[j]? = some c:=f
     match j with| 0=>cases f;simp only[X];exact⟨.val _,rfl⟩| j+1=>simp at f
    .intro i j hi hj;have R:j=0:=ω;subst R;have u:i<r.length:=(by simpa using hi);have S:i<D.size:=(by rw[g4];omega);simp only[Nat.mul_one,Nat.add_zero,List.getElem?_eq_getElem u];unfold Sort.putCells;rw[Array.getElem?_mapIdx,Array.getElem?_eq_getElem S];simp only[Option.map_some,Nat.zero_le,true_and,Nat.zero_add,List.size_toArray,u,if_true,Nat.sub_zero];congr 2;rw[getElem!_pos r.toArray i (by simpa using u)];simp)
   have eH:Bg (hp [.rows 3 1 (List.map (O .i64) b)]) 0 (.rows 3 1 (List.map (O .i64) r))=hp [.rows 3 1 (List.map (O .i64) r)]:=by
    funext i
    match i with| 0=>rfl| i+1=>rfl
   rw[eH]at le s';have eW:Sort.grow (Sort.putRow (Value.int .i64) (Sort.ahead w n) g 0 r.toArray) os=Sort.grow (Sort.ahead (w.setRow g (Sort.putCells (Value.int .i64) 0 r.toArray D)) n) os:=(by rw[Aph (Value.int .i64) (Sort.ahead w n) g r.toArray D 3 g3];rfl);rw[eW];exact⟨_,σ,ι,rfl,le,s'.growG n os,.tup _ _ rfl (λi c v h1 _=>by cases h1)⟩
end Go.Ab
namespace Go.Ab
open Go Go.Proofs Go.Shelf Go.Sort Go.Proofs.Tryz
set_option maxRecDepth 100000
set_option linter.unusedVariables false
theorem A11 {v:Value} (h:E6 v=true):v.oneCell'=true:=by cases v <;> first|rfl|cases h
theorem A12 {σ:A5} {ι:B9} {H:Hp} {f:FuncId} {v:Value} (h:Conc σ ι H (.fn f []) v):v = .func (.func f) #[] #[]:=by cases h with| cc h=>cases h| fn _ _ vs b _=>have:vs = #[]:=Array.size_eq_zero_iff.1 (by simpa using b);rw[this]
def Api {α:Type} (σ:A5) (eA:α->AV) (sz:Nat) (S:List α) (x:α) (c:List Value):Prop := x∈S/\(eA x).cells.length=sz/\c.length=sz/\∀(j:Nat) (a:AV) (v:Value),(eA x).cells[j]? = some a->c[j]? = some v->CC σ a v/\E6 v=true
abbrev Ow {α:Type} (σ:A5) (eA:α->AV) (sz:Nat) (S:List α):Type:={p:α×List Value // Api σ eA sz S p.1 p.2}
theorem A13 {σ:A5} {W w':World} (g:∀b o,W.heap[b]? = some o->σ b=some o) (s:St σ ι0 H0 (λ_=>none) W w'):∃q f,w'=grow (W.drewN q) f:=by
 have hk:∀b o,W.heap[b]? = some o->w'.heap[b]? = some o:=λb o h=>s.sto b o (g b o h);have j:W.heap.size<=w'.heap.size:=by
  rcases Nat.eq_zero_or_pos W.heap.size with h|h
  .omega
  .have:=hk (W.heap.size-1) _ (Array.getElem?_eq_getElem ω);have:=(Array.getElem?_eq_some_iff.1 this).1;omega
 refine⟨w'.drawn-W.drawn,w'.heap.extract W.heap.size w'.heap.size,?_⟩;have c:w'.heap=W.heap++w'.heap.extract W.heap.size w'.heap.size:=by
  apply Array.ext_getElem?;intro i;by_cases hi:i<W.heap.size
  .rw[Array.getElem?_append_left hi,Array.getElem?_eq_getElem hi];exact hk i _ (Array.getElem?_eq_getElem hi)
  .rw[Array.getElem?_append_right ω];by_cases hj:i<w'.heap.size
   .rw[Array.getElem?_eq_getElem hj,Array.getElem?_eq_getElem ζ];simp only[Array.getElem_extract];congr 2;omega
   .rw[Array.getElem?_eq_none ω,Array.getElem?_eq_none ζ]
 have h1:=s.os;have h2:=s.tape;have h3:=s.output;have k:=s.drw;cases w' with| mk heap tape drawn os output=>simp only at h1 h2 h3 k c;unfold grow World.drewN;simp only[World.mk.injEq];exact⟨c,h2,ω,h1,h3⟩
theorem Apj {ρ:Ren} {α:Type} {eA:α->AV} {E:TypeId} {sz f g:Nat} {cmp:α->α->Option Int} (L:SlLaysF0.n6 prog ρ) (hf:ρ.f 6=f) (a6:Acj prog f) (aE:∀w,(isAgg (ρ.t 24)).run prog w = .ok true w) (zE:∀w,(Go.sizeOf (ρ.t 24)).run prog w = .ok sz w) (eg:∀args w,(callFunc g args).run prog w = .ok (.enter g args) w) (ax:∀x y n,cmp x y=some n->Az prog g [eA x,eA y] (O .i64 n)) (az:∀x,∃cs,eA x = .agg cs) {l r:List α} (h:Pe cmp l=some r) (aj:l≠[]) : Bt prog f [.arr 0 l.length 0 l.length,.fn g []] [.rows E sz (l.map eA)] (.tup []) [.rows E sz (r.map eA)]:=by
 obtain⟨cf,law,bb,G,A⟩:=A1f h;refine⟨a6,λσ F W w ι vs s av=>?_⟩;obtain⟨v,v2,rfl,hv,b5⟩:=Ai4 av;obtain rfl:=A12 b5;have hh:hp [.rows E sz (l.map eA)] 0 = .rows E sz (l.map eA):=rfl;have N:=hv.arr_inv hh ψ;have hor:=s.obj 0;unfold C1 at hor;rw[hh]at hor;obtain⟨S,am,hor⟩:=hor;rw[List.length_map]at am;rcases hor with⟨_,ah⟩|⟨b,U,D,hb,g1,g2,g3,g4,g5,g6⟩
 .exact (aj (by simpa using ah)).elim
 rw[List.length_map]at g5;unfold G4 at N;rw[hb]at N;simp only[Nat.zero_mul,Nat.sub_zero]at N;obtain⟨ht,aa⟩:=N;subst aa;obtain⟨gg,q1,q2,q3⟩:=g6;have a8:∀(i:Nat) (x:α),l[i]? = some x->(l.map eA)[i]? = some (eA x):=λi x hx=>by rw[List.getElem?_map,hx];rfl
 have Z:∀(i:Nat) (hi:i<l.length),Api σ eA sz l l[i] ((List.range sz).map (gg i)):=by intro i hi;have hx:l[i]? = some l[i]:=List.getElem?_eq_getElem hi;refine⟨List.getElem_mem hi,q1 i _ (a8 i _ hx),ψ,λj a v ha hv=>?_⟩;rw[List.getElem?_map,Option.map_eq_some_iff]at hv;obtain⟨k,hk,rfl⟩:=hv;have b9:k=j:=(by have:=(List.getElem?_eq_some_iff.1 hk).2;simpa using this.symm);subst b9;exact q2 i _ k a (a8 i _ hx) ha
 have hpos:0<l.length:=List.length_pos_iff.2 aj;let d:Array (Ow σ eA sz l):=Array.ofFn λi:Fin l.length=>⟨(l[i.1],(List.range sz).map (gg i.1)),Z i.1 i.2⟩
 haveI:Inhabited (Ow σ eA sz l):=⟨⟨(l[0],(List.range sz).map (gg 0)),Z 0 hpos⟩⟩;have B:d.size=l.length:=by simp[d]
 have ba:∀i (hi:i<l.length),d[i]! = ⟨(l[i],(List.range sz).map (gg i)),Z i hi⟩:=λi hi=>by rw[getElem!_pos d i (by rw[B];exact hi)];simp[d]
 let enc:Ow σ eA sz l->List Value:=λp=>p.1.2
 have hk:∀x:Ow σ eA sz l,(enc x).length=sz:=λx=>x.2.2.2.1;have h1:∀x:Ow σ eA sz l,∀v∈enc x,v.oneCell'=true:=by intro x v hv;obtain⟨j,hj⟩:=List.getElem?_of_mem hv;have q:=(List.getElem?_eq_some_iff.1 hj).1;rw[hk x]at q;have ha:(eA x.1.1).cells[j]? = some ((eA x.1.1).cells[j]'(by rw[x.2.2.1];exact q)):=List.getElem?_eq_getElem _;exact A11 (x.2.2.2.2 j _ v ha hj).2
 let a7:Ow σ eA sz l->Ow σ eA sz l->Int:=λx y=>cf x.1.1 y.1.1
 have hO:SWO (ltOf a7):=by
  constructor
  .intro x;exact decide_eq_false (law.irr x.1.1)
  .intro x y z X V;exact decide_eq_true (law.trs _ _ _ (of_decide_eq_true X) (of_decide_eq_true V))
  .intro x y z X V;exact decide_eq_false (law.ntr _ _ _ (of_decide_eq_false X) (of_decide_eq_false V))
 have hH:HoldsK enc sz w b 0 d:=by
  intro t Y;rw[size_flatK,B]at Y;have ac:t / sz<l.length:=Nat.div_lt_of_lt_mul (by rw[Nat.mul_comm];exact Y);have ab:t % sz<sz:=Nat.mod_lt _ S;rw[get_flatK _ _ _ _ (by rw[B];exact Y),ba _ ac];have e:=q3 (t / sz) (t % sz) (by rw[List.length_map];exact ac) ab;rw[show t / sz*sz+t % sz=t by rw[Nat.mul_comm];exact Nat.div_add_mod t sz]at e;refine⟨?_,?_⟩
  .rw[Nat.zero_add,J6 g3,e];show some _=some (id _);congr 1;show gg _ _=((List.range sz).map (gg (t / sz)))[t % sz]!;rw[getElem!_pos _ _ (by simpa using ab)];simp
  .simp[World.frozen?,g3]
 have hblk:b<w.heap.size:=(Array.getElem?_eq_some_iff.1 g3).1;have hC:CmpLays prog g #[] enc sz a7 b 0 d.size w:=by
  intro m os dk hs x y;generalize b4:sortWorldK enc sz w b 0 m dk os=R;have ap:∀b' o,σ b'=some o->R.heap[b']? = some o:=(by intro b' o ho;have ai:b≠b':=(by rintro rfl;rw[g1]at ho;cases ho);have e:=s.sto b' o ho;have q:=(Array.getElem?_eq_some_iff.1 e).1;rw[<-b4];show ((w.heap.modify b _)++os)[b']? = _;rw[Array.getElem?_append_left (by simpa using q),Array.getElem?_modify,if_neg ai];exact e);have ar:=bb x.1.1 x.2.1 y.1.1 y.2.1;have hp:=ax _ _ _ ar;have s1:St ((λb=>R.heap[b]?)) ι0 H0 (λ_=>none) R R:=⟨λ_ _ e=>e,(λ_ _ e=>by cases e),λ_=>rfl,(λ_ _ _ hl=>by cases hl),rfl,rfl,rfl,s.glo.mono ap,Nat.le_refl _⟩;have ay:∀z:Ow σ eA sz l,Conc ((λb=>R.heap[b]?)) ι0 H0 (eA z.1.1) (.agg (enc z).toArray):=by
   intro z;obtain⟨cs,au⟩:=az z.1.1;have I:(eA z.1.1).cells=cs:=(by rw[au];rfl);rw[au];refine .cc (.agg _ _ ?_ λi c v hc hv=>?_)
   .rw[<-I,z.2.2.1];simp[hk z]
   .rw[<-I]at hc;exact (z.2.2.2.2 i c v hc (by simpa using hv)).1.mono ap
  refine (hp.2 ((λb=>R.heap[b]?)) (λ_=>none) R R _ s1 ⟨rfl,?_⟩).mono ?_
  .intro i a v ha hv
   match i,ha,hv with| 0,ha,hv=>cases ha;cases hv;exact ay x| 1,ha,hv=>cases ha;cases hv;exact ay y| n+2,ha,hv=>simp at ha
  .rintro e w' ⟨v,σ',rfl,ao,b6,hc⟩;refine⟨?_,?_⟩
   .cases hc with| cc h=>cases h;rfl
   .exact A13 (σ:=σ') (λb o ho=>ao b o ho) b6
 have call:=AnyQ.slices_SortFunc L sz aE zE enc hk h1 a7 hO g #[] b 0 U d w eg hC hH hblk (by rw[B];omega);rw[hf,B]at call;refine call.mono ?_;rintro e w' ⟨rfl,u,n,os,b8,b7,rfl⟩;obtain⟨p1,p2,p3⟩:=b8;have M:u.size=l.length:=by rw[p1,B]
 have J:∀(a:Array (Ow σ eA sz l)),a.size=l.length->(a.extract 0 l.length).toList=a.toList:=λa ha=>by rw[<-ha];simp
 rw[J u M,J d B]at p3;have ak:d.toList.map (λp=>p.1.1)=l:=by
  apply List.ext_getElem
  .simp[B]
  .intro i bg bf;simp[d]
 have ag:(u.toList.map λp=>p.1.1).Perm l:=by have:=p3.map λp:Ow σ eA sz l=>p.1.1;rwa [ak]at this
 have hR:(u.toList.map λp=>p.1.1).Pairwise λx y=>cf x y<0\/cf y x<0:=by refine ((ag.trans G.symm).pairwise_iff (λ{x y} h=>h.symm)).2 ?_;exact A.imp λh=>.inl h
 have hS:(u.toList.map λp=>p.1.1).Pairwise λx y=>cf x y<0:=by
  rw[List.pairwise_iff_getElem]at hR ⊢;intro i j hi hj aq;simp only[List.length_map,Array.length_toList]at hi hj;rcases hR i j (by simpa using hi) (by simpa using hj) aq with h|h
  .exact h
  .have:=b7 i j (Nat.zero_le _) aq ω;rw[getElem!_pos u i hi,getElem!_pos u j hj]at this;have:=of_decide_eq_false this;simp only[List.getElem_map,Array.getElem_toList]at h;exact (this h).elim
 have af:u.toList.map (λp=>p.1.1)=r:=by refine List.Perm.eq_of_pairwise (le:=λx y=>cf x y<0) (λx y _ _ h1 h2=>(law.irr x (law.trs _ _ _ h1 h2)).elim) hS A (ag.trans G.symm)
 have ae:r.length=l.length:=G.length_eq;have be:(flatK enc sz u).size=l.length*sz:=by rw[size_flatK,M]
 have b3:(Sort.putCells id 0 (flatK enc sz u) D).size=U*sz:=by unfold Sort.putCells;rw[Array.size_mapIdx];exact g4
 have ad:∀(i:Nat) (x:α),r[i]? = some x->i<u.size/\(u[i]!).1.1=x:=by intro i x hx;rw[<-af,List.getElem?_map,Option.map_eq_some_iff]at hx;obtain⟨p,hp,rfl⟩:=hx;have q:=(List.getElem?_eq_some_iff.1 hp).1;simp only[Array.length_toList]at q;refine⟨q,?_⟩;rw[getElem!_pos u i q];have:=(List.getElem?_eq_some_iff.1 hp).2;simp only[Array.getElem_toList]at this;rw[this]
 obtain⟨s',le⟩:=s.setRows 0 E sz _ (r.map eA) hh b U hb (by simp[ae]) (Sort.putCells id 0 (flatK enc sz u) D) b3 (by
  refine⟨λi j=>(enc u[i]!)[j]!,?_,?_,?_⟩
  .intro i x hx;rw[List.getElem?_map]at hx;obtain⟨z,hz,rfl⟩:=Option.map_eq_some_iff.1 hx;obtain⟨e1,e2⟩:=ad i z hz;rw[<-e2];exact (u[i]!).2.2.1
  .intro i x j c hx a1;rw[List.getElem?_map]at hx;obtain⟨z,hz,rfl⟩:=Option.map_eq_some_iff.1 hx;obtain⟨e1,e2⟩:=ad i z hz;rw[<-e2]at a1;have q:=(List.getElem?_eq_some_iff.1 a1).1;rw[(u[i]!).2.2.1,<-(u[i]!).2.2.2.1]at q;have hg:(u[i]!).1.2[j]? = some ((enc u[i]!)[j]!):=(by rw[List.getElem?_eq_getElem q,getElem!_pos (enc u[i]!) j q]);exact (u[i]!).2.2.2.2 j c _ a1 hg
  .intro i j hi hj;rw[List.length_map,ae]at hi;have q:i*sz+j<l.length*sz:=(by have:=Nat.mul_le_mul_right sz (show i+1<=l.length from hi);rw[Nat.add_mul,Nat.one_mul]at this;omega);have hD:i*sz+j<D.size:=(by rw[g4];exact Nat.lt_of_lt_of_le q (Nat.mul_le_mul_right sz g5));unfold Sort.putCells;rw[Array.getElem?_mapIdx,Array.getElem?_eq_getElem hD];simp only[Option.map_some,Nat.zero_le,true_and,Nat.zero_add,be,q,if_true,Nat.sub_zero];congr 1;show id ((flatK enc sz u)[i*sz+j]!)=_;rw[get_flatK _ _ _ _ (by rw[M];exact q)];have e1:(i*sz+j) / sz=i:=(by rw[Nat.mul_comm,Nat.mul_add_div S,Nat.div_eq_of_lt hj,Nat.add_zero]);have e2:(i*sz+j) % sz=j:=(by rw[Nat.mul_comm,Nat.mul_add_mod,Nat.mod_eq_of_lt hj]);rw[e1,e2];rfl);have eH:Bg (hp [.rows E sz (l.map eA)]) 0 (.rows E sz (r.map eA))=hp [.rows E sz (r.map eA)]:=by
  funext i
  match i with| 0=>rfl| i+1=>rfl
 rw[eH]at le s';have eW:sortWorldK enc sz w b 0 n u os=Sort.grow (Sort.ahead (w.setRow b (Sort.putCells id 0 (flatK enc sz u) D)) n) os:=by unfold sortWorldK putRowK;rw[Aph id (Sort.ahead w n) b (flatK enc sz u) D E g3];rfl
 rw[eW];exact⟨_,σ,ι,rfl,le,s'.growG n os,.tup _ _ rfl (λi c v h1 _=>by cases h1)⟩
def A14:Ren:={f:=λx=>match x with|6=>131|15=>102|14=>202|28=>171|29=>172|20=>260|21=>261|22=>262|23=>263|24=>264|25=>265|26=>266|27=>267|46=>292|47=>241|48=>242|49=>293|50=>294|57=>333|n=>n,t:=λx=>match x with|22=>29|24=>61|25=>196|3=>3|39=>168|0=>0|53=>101|55=>100|4=>4|46=>236|45=>235|50=>194|5=>5|9=>9|66=>317|70=>133|76=>364|77=>365|n=>n,g:=λn=>n}
theorem A15:SlLaysF0.n6 prog A14:=by
 constructor
 case f6=>exact Exists.intro "slices.SortFunc[[]amortcost/api.Term,amortcost/api.Term]" ⟨κ,κ⟩
 case f14=>exact Exists.intro "slices.pdqsortCmpFunc[amortcost/api.Term]" ⟨κ,κ⟩
 case f20=>exact Exists.intro "slices.insertionSortCmpFunc[amortcost/api.Term]" ⟨κ,κ⟩
 case f21=>exact Exists.intro "slices.heapSortCmpFunc[amortcost/api.Term]" ⟨κ,κ⟩
 case f22=>exact Exists.intro "slices.breakPatternsCmpFunc[amortcost/api.Term]" ⟨κ,κ⟩
 case f23=>exact Exists.intro "slices.choosePivotCmpFunc[amortcost/api.Term]" ⟨κ,κ⟩
 case f24=>exact Exists.intro "slices.reverseRangeCmpFunc[amortcost/api.Term]" ⟨κ,κ⟩
 case f25=>exact Exists.intro "slices.partialInsertionSortCmpFunc[amortcost/api.Term]" ⟨κ,κ⟩
 case f26=>exact Exists.intro "slices.partitionEqualCmpFunc[amortcost/api.Term]" ⟨κ,κ⟩
 case f27=>exact Exists.intro "slices.partitionCmpFunc[amortcost/api.Term]" ⟨κ,κ⟩
 case f46=>exact Exists.intro "slices.siftDownCmpFunc[amortcost/api.Term]" ⟨κ,κ⟩
 case f49=>exact Exists.intro "slices.medianAdjacentCmpFunc[amortcost/api.Term]" ⟨κ,κ⟩
 case f50=>exact Exists.intro "slices.medianCmpFunc[amortcost/api.Term]" ⟨κ,κ⟩
 case f57=>exact Exists.intro "slices.order2CmpFunc[amortcost/api.Term]" ⟨κ,κ⟩
 all_goals first|kernel_rfl | (intro w;kernel_rfl)
theorem A16 {α:Type} {eA:α->AV} {g:Nat} {cmp:α->α->Option Int} (j:∀args w,(callFunc g args).run prog w = .ok (.enter g args) w) (b:∀x y n,cmp x y=some n->Az prog g [eA x,eA y] (O .i64 n)) (c:∀x,∃cs,eA x = .agg cs) {f r:List α} (h:Pe cmp f=some r) (i:f≠[]) : Bt prog 131 [.arr 0 f.length 0 f.length,.fn g []] [.rows 61 5 (f.map eA)] (.tup []) [.rows 61 5 (r.map eA)] := Apj A15 rfl ⟨_,func131,κ,κ⟩ (by intro w;kernel_rfl) (by intro w;kernel_rfl) j b c h i
def A17:Ren:={f:=λx=>match x with|6=>252|15=>102|14=>288|28=>171|29=>172|20=>321|21=>322|22=>323|23=>324|24=>325|25=>326|26=>327|27=>328|46=>348|47=>241|48=>242|49=>349|50=>350|57=>365|n=>n,t:=λx=>match x with|22=>51|24=>50|25=>315|3=>3|39=>168|0=>0|53=>101|55=>100|4=>4|46=>236|45=>235|50=>194|5=>5|9=>9|66=>317|70=>133|76=>364|77=>365|n=>n,g:=λn=>n}
theorem A18:SlLaysF0.n6 prog A17:=by
 constructor
 case f6=>exact Exists.intro "slices.SortFunc[[]amortcost/api.LinTerm,amortcost/api.LinTerm]" ⟨κ,κ⟩
 case f14=>exact Exists.intro "slices.pdqsortCmpFunc[amortcost/api.LinTerm]" ⟨κ,κ⟩
 case f20=>exact Exists.intro "slices.insertionSortCmpFunc[amortcost/api.LinTerm]" ⟨κ,κ⟩
 case f21=>exact Exists.intro "slices.heapSortCmpFunc[amortcost/api.LinTerm]" ⟨κ,κ⟩
 case f22=>exact Exists.intro "slices.breakPatternsCmpFunc[amortcost/api.LinTerm]" ⟨κ,κ⟩
 case f23=>exact Exists.intro "slices.choosePivotCmpFunc[amortcost/api.LinTerm]" ⟨κ,κ⟩
 case f24=>exact Exists.intro "slices.reverseRangeCmpFunc[amortcost/api.LinTerm]" ⟨κ,κ⟩
 case f25=>exact Exists.intro "slices.partialInsertionSortCmpFunc[amortcost/api.LinTerm]" ⟨κ,κ⟩
 case f26=>exact Exists.intro "slices.partitionEqualCmpFunc[amortcost/api.LinTerm]" ⟨κ,κ⟩
 case f27=>exact Exists.intro "slices.partitionCmpFunc[amortcost/api.LinTerm]" ⟨κ,κ⟩
 case f46=>exact Exists.intro "slices.siftDownCmpFunc[amortcost/api.LinTerm]" ⟨κ,κ⟩
 case f49=>exact Exists.intro "slices.medianAdjacentCmpFunc[amortcost/api.LinTerm]" ⟨κ,κ⟩
 case f50=>exact Exists.intro "slices.medianCmpFunc[amortcost/api.LinTerm]" ⟨κ,κ⟩
 case f57=>exact Exists.intro "slices.order2CmpFunc[amortcost/api.LinTerm]" ⟨κ,κ⟩
 all_goals first|kernel_rfl | (intro w;kernel_rfl)
theorem A19 {α:Type} {eA:α->AV} {g:Nat} {cmp:α->α->Option Int} (j:∀args w,(callFunc g args).run prog w = .ok (.enter g args) w) (b:∀x y n,cmp x y=some n->Az prog g [eA x,eA y] (O .i64 n)) (c:∀x,∃cs,eA x = .agg cs) {f r:List α} (h:Pe cmp f=some r) (i:f≠[]) : Bt prog 252 [.arr 0 f.length 0 f.length,.fn g []] [.rows 50 2 (f.map eA)] (.tup []) [.rows 50 2 (r.map eA)] := Apj A18 rfl ⟨_,func252,κ,κ⟩ (by intro w;kernel_rfl) (by intro w;kernel_rfl) j b c h i
end Go.Ab
namespace Go.Ab
open Go Go.Proofs Go.Shelf Go.Proofs.Tryz
set_option maxRecDepth 100000
set_option linter.unusedVariables false
theorem Acf {σ:A5} {ι:B9} {H:Hp} {u v:Value} (h:Conc σ ι H (.val u) v):v=u:=by cases h with| cc h=>cases h;rfl
theorem Ai7 {ρ:Ren} {α:Type} {eA:α->AV} {E:TypeId} {sz f:Nat} (L:Lays8.n4 prog ρ) (N:ρ.f 4=f) (g:Acj prog f) (l:TypeInfo) (z:Value) (G:prog.info? (ρ.t 25)=some l) (D:l.zero=some z) (V:ρ.t 25=E) (S:l.size=sz) (B:z.cells.size=sz) (q:0<sz) (I:l.bytes<=1000) {n:Int} {r:List α} (h:Og n=some r):Bt prog f [.val (.slice none 0 0),O .i64 n] [] (.arr 0 r.length 0 r.length) [.rows E sz (r.map eA)]:=by
 have U:r = []/\0<=n/\n<=1000000:=by
  unfold Og at h;by_cases h1:0<=n
  .by_cases h2:n<=1000000
   .rw[decide_eq_true h1,decide_eq_true h2]at h;have h:some ([]:List α)=some r:=h;cases h;exact⟨rfl,h1,h2⟩
   .rw[decide_eq_false h2,Bool.and_false]at h;cases h
  .rw[decide_eq_false h1,Bool.false_and]at h;cases h
 obtain⟨rfl,n0,Z⟩:=U;obtain⟨m,rfl⟩:∃m:Nat,n=m:=⟨n.toNat,ω⟩;refine⟨g,λσ F W w ι vs s y=>?_⟩;obtain⟨v,u,rfl,hv,hu⟩:=Ai4 y;obtain rfl:=Acf hv;obtain rfl:=Acf hu;have M:hp [] 0 = .none:=rfl;have R:Bg (hp []) 0 (.rows E sz [])=hp [.rows E sz []]:=by
  funext i
  match i with| 0=>rfl| i+1=>rfl
 by_cases h0:m=0
 .subst h0;have call:=Any8.slices_Grow_room L none 0 0 0 w (Nat.le_refl _) δ δ δ;rw[N]at call;refine call.mono ?_;rintro e w' ⟨rfl,rfl⟩;obtain⟨s',le⟩:=s.newNil 0 M E sz q;rw[R]at s' le;refine⟨_,σ,_,rfl,le,s',.arr 0 0 0 0 _ (by intro e;cases e) (λY A xs e=>?_) rfl⟩;cases e;refine⟨Nat.le_refl _,λ_=>?_⟩;unfold G4;rw[Cy];exact⟨rfl,rfl,rfl⟩
 .have hb:(0+m)*l.bytes<=140737488355328:=(by have:=Nat.mul_le_mul (show 0+m<=1000000 by omega) I;omega);have call:=Any8.slices_Grow_grow L l z G D ω none 0 0 m [] w (Nat.le_refl _) ω hb ω ψ (λ_=>rfl) (λa h=>by cases h);rw[N,V]at call;refine call.mono ?_;rintro e w' ⟨rfl,rfl⟩;have hge:=Ab8 w (0+m) 0 E;generalize grownCap w (0+m) 0 E=cap at hge;have b:∀k,(Builtin.zeroCells z.cells k).size=k*sz:=(by intro k;simp[Builtin.zeroCells,B]);generalize X:(([]:List Value).toArray++Builtin.zeroCells z.cells (0+m-0)++Builtin.zeroCells z.cells (cap-(0+m)))=C;have J:C.size=cap*sz:=(by rw[<-X,Array.size_append,Array.size_append,b,b];simp only[List.size_toArray,List.length_nil,Nat.zero_add,Nat.sub_zero,<-Nat.add_mul];congr 1;omega);obtain⟨s',le⟩:=(s.drew (w.drawn+1)).newRows 0 E sz [] cap C (.inl M) q ψ ψ J ⟨λ_ _=>.bool false,(by intro i x h;simp at h),(by intro i x j c h;simp at h),(by intro i j h;simp at h)⟩;rw[R]at s' le;refine⟨_,σ,_,rfl,le,s',.arr 0 0 0 0 _ (by intro e;cases e) (λY A xs e=>?_) rfl⟩;cases e;refine⟨Nat.le_refl _,λ_=>?_⟩;unfold G4;rw[Cy];exact⟨Nat.zero_le _,ψ⟩
def A2a:Ren:={f:=λx=>match x with|4=>254|n=>n,t:=λx=>match x with|22=>51|25=>50|3=>3|4=>4|9=>9|20=>20|0=>0|n=>n,g:=λn=>n}
theorem A2b:Lays8.n4 prog A2a:=by
 constructor
 case f4=>exact Exists.intro "slices.Grow[[]amortcost/api.LinTerm,amortcost/api.LinTerm]" ⟨κ,κ⟩
 all_goals first|kernel_rfl | (intro w;kernel_rfl)
theorem A2c {α:Type} {eA:α->AV} {n:Int} {r:List α} (h:Og n=some r):Bt prog 254 [.val (.slice none 0 0),O .i64 n] [] (.arr 0 r.length 0 r.length) [.rows 50 2 (r.map eA)] := Ai7 A2b rfl ⟨_,func254,κ,κ⟩ Tryz.t50 (Tryz.t50.zero.getD .nilFunc) κ κ rfl κ κ δ (of_decide_eq_true κ) h
def A2d:Ren:={f:=λx=>match x with|4=>274|n=>n,t:=λx=>match x with|22=>57|25=>94|3=>3|4=>4|9=>9|20=>20|0=>0|n=>n,g:=λn=>n}
theorem A2e:Lays8.n4 prog A2d:=by
 constructor
 case f4=>exact Exists.intro "slices.Grow[[]amortcost/api.Factor,amortcost/api.Factor]" ⟨κ,κ⟩
 all_goals first|kernel_rfl | (intro w;kernel_rfl)
theorem A2f {α:Type} {eA:α->AV} {n:Int} {r:List α} (h:Og n=some r):Bt prog 274 [.val (.slice none 0 0),O .i64 n] [] (.arr 0 r.length 0 r.length) [.rows 94 3 (r.map eA)] := Ai7 A2e rfl ⟨_,func274,κ,κ⟩ Tryz.t94 (Tryz.t94.zero.getD .nilFunc) κ κ rfl κ κ δ (of_decide_eq_true κ) h
def A2g:Ren:={f:=λx=>match x with|4=>275|n=>n,t:=λx=>match x with|22=>56|25=>55|3=>3|4=>4|9=>9|20=>20|0=>0|n=>n,g:=λn=>n}
theorem A2h:Lays8.n4 prog A2g:=by
 constructor
 case f4=>exact Exists.intro "slices.Grow[[]amortcost/api.Atom,amortcost/api.Atom]" ⟨κ,κ⟩
 all_goals first|kernel_rfl | (intro w;kernel_rfl)
theorem A2i {α:Type} {eA:α->AV} {n:Int} {r:List α} (h:Og n=some r):Bt prog 275 [.val (.slice none 0 0),O .i64 n] [] (.arr 0 r.length 0 r.length) [.rows 55 3 (r.map eA)] := Ai7 A2h rfl ⟨_,func275,κ,κ⟩ Tryz.t55 (Tryz.t55.zero.getD .nilFunc) κ κ rfl κ κ δ (of_decide_eq_true κ) h
end Go.Ab
