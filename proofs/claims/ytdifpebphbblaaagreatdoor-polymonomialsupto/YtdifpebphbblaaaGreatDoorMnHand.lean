/- Contracts of the library. -/
import Derived.Test.YtdifpebphbblaaaGreatDoorMnTy
import Derived.Test.YtdifpebphbblaaaGreatDoorMnHandB
import Derived.Shelf.Strconv.Itoa4
import Derived.KernelRfl
import Derived.Shelf.Sort.Plain
import Derived.Shelf.SlSortCmp.WholeK
import Derived.Shelf.Spec.SlicesGrow
open List
namespace Go.Ab
open Go Go.Proofs Go.Shelf Go.Proofs.Tryz
set_option maxRecDepth 100000
variable {p x:AV} {vs:Array Value} {F σ:Aw} {ι:Bq} {r:ByteArray} {H:Hp} {a0:Int} {l:List Int} {W w:World}
def Ajn:Ren:={f:=λx=>match x with|171=>177|243=>231|246=>266|283=>313|284=>314|285=>315|286=>316|129=>121|317=>337|318=>338|319=>339|320=>340|337=>351|338=>352|173=>287|n=>n,t:=λx=>match x with|3=>3|9=>9|2=>2|4=>4|171=>370|0=>0|53=>143|37=>237|5=>5|173=>372|212=>397|51=>144|20=>20|213=>398|46=>127|232=>412|233=>413|n=>n,g:=λx=>match x with|17=>0|18=>1|19=>2|n=>n}
theorem Ajo:LaysM.n171 prog Ajn:=by constructor;constructor;all_goals first|kernel_rfl | (intro w;kernel_rfl)
theorem St.grown (s:St σ ι0 H0 F W w) (k:Nat) (os:Array Obj):St σ ι0 H0 F W (Sort.grow (w.drewN k) os):=by
 have hk:∀(b:Nat) (o:Obj),w.heap[b]? = some o->(Sort.grow (w.drewN k) os).heap[b]? = some o:=by intro b o h;have c:=(Array.getElem?_eq_some_iff.1 h).1;show (w.heap++os)[b]? = _;rw[Array.getElem?_append_left c];exact h
 exact⟨λb o h=>hk b o (s.sto b o h),λb o h=>⟨hk b o (s.fra b o h).1,(s.fra b o h).2⟩,λ_=>rfl,(λ_ _ _ f=>by cases f),s.os,s.tape,s.output,s.glo,Nat.le_trans s.drw (Nat.le_add_right _ _)⟩
theorem Ajp (s:St σ ι H F W w):Lib.TabIs prog w "internal/strconv.uint64pow10" .u64 Lib.pow10Tab:=by obtain⟨E,d,e⟩:=s.glo;have h:=s.sto _ _ e;have g:prog.globalNamed "internal/strconv.uint64pow10" = some 0:=Ajo.m17;unfold Lib.TabIs World.var?;rw[g];simp only[Option.bind_some,h]
theorem V2 (h:Jo σ ι H [x] vs):∃v,vs = #[v]/\Conc σ ι H x v:=by
 obtain⟨d,j⟩:=h;have d:vs.size=1:=d;refine⟨vs[0],?_,j 0 x _ rfl (by simp[d])⟩;apply Array.ext
 .simp[d]
 .intro i hi b;have:i=0:=ω;subst this;rfl
theorem Att (h:Ob a0=some r):A4 prog 177 [Aa .i64 a0] (Ej r):=by
 unfold Ob at h;split at h
 .rename_i d;cases h;refine⟨⟨_,func177,κ,κ⟩,λσ F W w vs s b=>?_⟩;obtain⟨v,rfl,c⟩:=V2 b;have c:=c.val_inv;subst c;have:=Any.strconv_Itoa Ajo a0 d.1 d.2 w (Ajp s);refine this.mono ?_;rintro e j ⟨rfl,k,os,rfl⟩;exact⟨_,σ,rfl,Aw.le_refl σ,s.grown k os,.of_val _⟩
 .cases h
theorem Atu:LaysM.n173 prog Ajn:=by constructor;constructor;all_goals first|kernel_rfl | (intro w;kernel_rfl)
theorem Ad9 {y:AV} (h:Jo σ ι H [x,y] vs):∃v u,vs = #[v,u]/\Conc σ ι H x v/\Conc σ ι H y u:=by
 obtain⟨d,j⟩:=h;have d:vs.size=2:=d;refine⟨vs[0],vs[1],?_,j 0 x _ rfl (by simp[d]),j 1 y _ rfl (by simp[d])⟩;apply Array.ext
 .simp[d]
 .intro i hi b;rcases (ω:i=0\/i=1) with h|h
  .subst h;rfl
  .subst h;rfl
theorem Atv {a1:Int} (h:Ab7 a0 a1=some r):A4 prog 287 [Aa .i64 a0,Aa .i64 a1] (Ej r):=by
 unfold Ab7 at h;cases d:a1==10 with
 | false=>rw[d]at h;cases h
 | true=>
  rw[d]at h;have d:=eq_of_beq d;subst d;have h:Ob a0=some r:=h;unfold Ob at h;split at h
  .rename_i q;cases h;refine⟨⟨_,func287,κ,κ⟩,λσ F W w vs s b=>?_⟩;obtain⟨v,u,rfl,c,j⟩:=Ad9 b;have c:=c.val_inv;have j:=j.val_inv;subst c;subst j;have:=Any.strconv_FormatInt_10 Atu a0 q.1 q.2 w (Ajp s);refine this.mono ?_;rintro e y ⟨rfl,k,os,rfl⟩;exact⟨_,σ,rfl,Aw.le_refl σ,s.grown k os,.of_val _⟩
  .cases h
theorem Zj (o:Bg) (os:List Bg):hp (o::os) 0=o:=rfl
theorem Atw (x:AV) (rest:List Bg):Bt prog 230 [.loc 0 0] (.cells 239 [.loc 0 0,x]::rest) (.tup []) (.cells 239 [.loc 0 0,x]::rest):=by
 refine⟨⟨_,func230,κ,κ⟩,λσ F W w ι vs s f=>?_⟩;obtain⟨v,rfl,u⟩:=V2 f;obtain⟨b,d,u⟩:=u.loc_inv;subst u;have y:=s.obj 0;unfold Bw at y;rw[Zj]at y;obtain⟨E,C,B,_,_,h,A,D⟩:=y;rw[B]at d;cases d;have d:=B
 have A:C.size=2:=A;have j:C[0]? = some C[0]:=by simp[A]
 have z:=D 0 (.loc 0 0) C[0] rfl j;obtain⟨L,k,q⟩:=z.loc_inv;rw[d]at k;cases k;have cell:w.cell? ⟨b,0,none⟩=some (.pointer (some ⟨b,0,none⟩)):=by rw[I1 h,j,q]
 refine (Tryz.check_used b w cell).mono ?_;rintro e M ⟨rfl,rfl⟩;exact⟨_,σ,ι,rfl,Le.refl _ _ _,s,.tup _ _ rfl (λi c v I _=>by cases I)⟩
theorem Atx (x:AV) (rest:List Bg):Bt prog 230 [.loc 0 0] (.cells 239 [.val (.pointer none),x]::rest) (.tup []) (.cells 239 [.loc 0 0,x]::rest):=by
 refine⟨⟨_,func230,κ,κ⟩,λσ F W w ι vs s q=>?_⟩;obtain⟨v,rfl,z⟩:=V2 q;obtain⟨b,h,z⟩:=z.loc_inv;subst z;have A:=s.obj 0;unfold Bw at A;rw[Zj]at A;obtain⟨J,C,E,_,_,L,j,D⟩:=A;rw[E]at h;cases h;have h:=E
 have j:C.size=2:=j;have u:C[0]? = some C[0]:=by simp[j]
 have y:=(D 0 (.val (.pointer none)) C[0] rfl u).val_inv;have cell:w.cell? ⟨b,0,none⟩=some (.pointer none):=by rw[I1 L,u,y]
 refine (Tryz.check_fresh b w cell (by simp[World.shape?,L,j]) (by simp[World.frozen?,L])).mono ?_;rintro e O ⟨rfl,rfl⟩;obtain⟨N,le⟩:=s.setBox 0 239 [.val (.pointer none),x] [.loc 0 0,x] rfl b h #[.pointer (some ⟨b,0,none⟩),C[1]] rfl (by
  intro i c v d M
  match i with| 0=>simp at d M;subst d;subst M;exact .loc 0 0 b (by rw[h];rfl)| 1=>simp at d M;subst d;subst M;exact D 1 x _ rfl (by simp[j])| i+2=>simp at d)
 have I:Aj (hp (.cells 239 [.val (.pointer none),x]::rest)) 0 (.cells 239 [.loc 0 0,x])=hp (.cells 239 [.loc 0 0,x]::rest):=by funext i;cases i with| zero=>rfl| succ i=>rfl
 have G:w.setCell ⟨b,0,none⟩ (.pointer (some ⟨b,0,none⟩))=w.setRow b #[.pointer (some ⟨b,0,none⟩),C[1]]:=by
  have k:C.setIfInBounds 0 (.pointer (some ⟨b,0,none⟩)) = #[.pointer (some ⟨b,0,none⟩),C[1]]:=by
   apply Array.ext
   .simp[j]
   .intro i hi B
    match i with| 0=>simp| 1=>rw[Array.getElem_setIfInBounds_ne _ δ];rfl| i+2=>simp at B;omega
  have f:(w.setCell ⟨b,0,none⟩ (.pointer (some ⟨b,0,none⟩))).heap=(w.setRow b #[.pointer (some ⟨b,0,none⟩),C[1]]).heap:=by
   apply Array.ext_getElem?;intro i;simp only[World.setCell,World.setRow,Array.getElem?_modify];split
   .rename_i e;subst e;rw[L];simp[k]
   .rfl
  unfold World.setCell World.setRow at f ⊢;simp only at f;rw[f]
 rw[I]at N le;rw[G];exact⟨_,σ,ι,rfl,le,N,.tup _ _ rfl (λi c v d _=>by cases d)⟩
theorem Aty (h:∀x∈l,0<=x/\x<256) {j:Nat} {x:UInt8} (d:(Fw l)[j]? = some x):l[j]? = some (x.toNat:Int):=by simp only[Fw,getElem?_map,Option.map_eq_some_iff]at d;obtain⟨y,k,rfl⟩:=d;have b:=h y (mem_of_getElem? k);rw[k];congr 1;have:y.toNat<256:=ω;simp only[UInt8.toNat_ofNat'];omega
theorem St.kill (s:St σ ι H F W w) (h:Nat):St σ ι (Aj H h .dead) F W w/\Le σ ι H σ ι (Aj H h .dead):=by
 have le:Le σ ι H σ ι (Aj H h .dead):=by have:=Le.upd (ι:=ι) (H:=H) (Aw.le_refl σ) h (ι h) .dead ⟨λ_ e=>e,(λ_ e=>by cases e),(λ_ q k j e=>by cases e)⟩;rwa [Hk]at this
 obtain⟨f1,f2⟩:=s.fresh;refine⟨s.touch h w.heap.size (λ_ _=>rfl) (λx e=>Be _ _ e) le (λ_ _=>rfl) (λ_ _=>rfl) (λo i=>by rw[f1]at i;cases i) ?_ f2 ?_ ?_ rfl rfl rfl,le⟩
 .intro x _ c f;have:=(s.block c f).1;omega
 .intro b c;rw[Ba]at c;cases c
 .unfold Bw;rw[Ba];trivial
theorem St.fbox (s0:St σ ι H F W w) {T:TypeId} {s:ByteArray} {b:Nat} {C:Array Value} (f:H 0 = .cells T [p,x]) (hb:ι 0 = .box b) (h3:w.heap[b]? = some (.cells C T (0,0))) (hc:∀v,C[1]? = some v->CC σ (.fb s) v):St σ ι (Aj H 0 (.cells T [p,.fb s])) F W w/\Le σ ι H σ ι (Aj H 0 (.cells T [p,.fb s])):=by
 have j:=s0.obj 0;unfold Bw at j;rw[f]at j;obtain⟨B,D,u,d,h,I,L,M⟩:=j;rw[hb]at u;cases u;rw[h3]at I;cases I;have le:Le σ ι H σ ι (Aj H 0 (.cells T [p,.fb s])):=by have:=Le.upd (ι:=ι) (H:=H) (Aw.le_refl σ) 0 (ι 0) (.cells T [p,.fb s]) (by rw[f];exact⟨λ_ e=>e,(λ_ e=>by cases e),(λ_ _ _ _ e=>by cases e)⟩);rwa [Hk]at this
 refine⟨s0.touch 0 b (λ_ _=>rfl) (λx e=>Be _ _ e) le (λx e=>rfl) (λ_ _=>rfl) (λo e=>by rw[d]at e;cases e) ?_ h ?_ ?_ rfl rfl rfl,le⟩
 .intro x e z k;exact e (s0.inj x 0 b z (by rw[f];rfl) k (by rw[hb];rfl))
 .intro A _ q;exact .inr ⟨by rw[f];rfl,q⟩
 .unfold Bw;rw[Ba];refine⟨b,C,hb,d,h,h3,by simpa using L,λi c v x y=>?_⟩
  match i with| 0=>exact (M 0 c v x y).mono le| 1=>cases x;exact .cc (hc v y)| i+2=>cases x
theorem Atz:Bt prog 179 [.loc 0 0] [.cells 239 [p,.arr 1 0 0 0],.rows 5 1 []] (Ej .empty) [.cells 239 [p,.fb .empty],.dead]:=by
 refine⟨⟨_,func179,κ,κ⟩,λσ F W w ι vs s A=>?_⟩;obtain⟨v,rfl,k⟩:=V2 A;obtain⟨b,hb,k⟩:=k.loc_inv;subst k;have L:=s.obj 0;unfold Bw at L;rw[Zj]at L;obtain⟨b',C,V,_,_,h3,E,h5⟩:=L;rw[V]at hb;cases hb;have hb:=V
 have E:C.size=2:=E;have Z:C = #[C[0],C[1]]:=by
  apply Array.ext
  .simp[E]
  .intro i hi M
   match i with| 0=>rfl| 1=>rfl| i+2=>simp at M;omega
 have N:=h5 1 (.arr 1 0 0 0) C[1] rfl (by simp[E]);have z:hp [Bg.cells 239 [p,.arr 1 0 0 0],.rows 5 1 []] 1 = .rows 5 1 []:=rfl;have c:=N.arr_inv z ψ;have h:=s.obj 1;unfold Bw at h;rw[z]at h;obtain⟨_,S,h⟩:=h;have eH:Aj (Aj (hp [Bg.cells 239 [p,.arr 1 0 0 0],.rows 5 1 []]) 1 .dead) 0 (.cells 239 [p,.fb .empty])=hp [Bg.cells 239 [p,.fb .empty],.dead]:=by
  funext i
  match i with| 0=>rfl| 1=>rfl| i+2=>rfl
 have go:∀(a q:Option Addr) (d:Nat) (B:Aw) (u:World),C[1] = .slice a 0 d->u.heap[b]? = w.heap[b]?->(Builtin.unsafeSliceData_ #[237] 303 #[.slice a 0 d]).run prog w.drew = .ok (.pointer q) u ->
   Le σ ι (hp [Bg.cells 239 [p,.arr 1 0 0 0],.rows 5 1 []]) B ι (hp [Bg.cells 239 [p,.arr 1 0 0 0],.rows 5 1 []])->St B ι (hp [Bg.cells 239 [p,.arr 1 0 0 0],.rows 5 1 []]) F W u -> Calls prog 179 #[.pointer (some ⟨b,0,none⟩)] w λe w'=>∃v σ' ι',e = .returned v/\Le σ ι (hp [Bg.cells 239 [p,.arr 1 0 0 0],.rows 5 1 []]) σ' ι' (hp [Bg.cells 239 [p,.fb .empty],.dead])/\St σ' ι' (hp [Bg.cells 239 [p,.fb .empty],.dead]) F W w'/\Conc σ' ι' (hp [Bg.cells 239 [p,.fb .empty],.dead]) (Ej .empty) v:=by intro a q d B u f y O le G;have j:w.heap[b]? = some (.cells #[C[0],.slice a 0 d] 239 (0,0)):=(by rw[h3];congr 1;rw[<-f,<-Z]);refine (Tryz.builder_str0 b d C[0] a q w u j (y.trans j) O).mono ?_;rintro e w' ⟨rfl,rfl⟩;obtain⟨X,I⟩:=G.kill 1;obtain⟨R,x⟩:=X.fbox (b:=b) (C:=#[C[0],.slice a 0 d]) (s:=.empty) (by rfl) hb ((y.trans j)) (λv k=>by simp at k;subst k;exact .fbn _ _ _ rfl);rw[eH]at R x;exact⟨_,B,ι,rfl,(le.trans I).trans x,R,.of_val _⟩
 rcases h with⟨hi,_⟩|⟨g,A8,D,Y,g1,g2,g3,g4,g5,g6⟩
 .unfold Gg at c;rw[hi]at c;exact go none none 0 σ w.drew c.1 rfl rfl (Le.refl _ _ _) (s.drew _)
 .unfold Gg at c;rw[Y]at c;simp only[Nat.zero_mul,Nat.zero_add,Nat.sub_zero]at c;obtain⟨_,f⟩:=c;by_cases ht:A8=0
  .subst ht;obtain⟨G,J⟩:=(s.drew (w.drawn+1)).newFrozen (.view ⟨g,0,none⟩ 5);have U:=(Array.getElem?_eq_some_iff.1 h3).1;refine go _ _ 0 _ (w.drew.alloc (.view ⟨g,0,none⟩ 5)) f ?_ (Lib.run_unsafeSliceData_zero _ _ _ 5 underlying303 _ _ (5,D.size) (by have:w.drew.heap[g]? = some (.cells D 5 (0,0)):=g3;simp[World.shape?,this])) J G;show (w.heap.push _)[b]? = _;rw[Array.getElem?_push,if_neg ω]
  .exact go _ _ A8 σ w.drew f rfl (Lib.run_unsafeSliceData_row _ _ _ _ _ _ ht) (Le.refl _ _ _) (s.drew _)
theorem Ajq (h:Ua l=some r):Bt prog 179 [.loc 0 0] [.cells 239 [p,.arr 1 l.length 0 l.length],.rows 5 1 (map (Aa .u8) l)] (Ej r) [.cells 239 [p,.fb r],.dead]:=by
 unfold Ua at h;split at h
 .rename_i a6;cases h;by_cases q:l = []
  .subst q;exact Atz
  refine⟨⟨_,func179,κ,κ⟩,λσ F W w ι vs s N=>?_⟩;obtain⟨v,rfl,y⟩:=V2 N;obtain⟨b,hb,y⟩:=y.loc_inv;subst y;have A:=s.obj 0;unfold Bw at A;rw[Zj]at A;obtain⟨b',C,e1,_,_,h3,U,h5⟩:=A;rw[e1]at hb;cases hb;have hb:=e1
  have U:C.size=2:=U;have hC:C = #[C[0],C[1]]:=by
   apply Array.ext
   .simp[U]
   .intro i hi Z
    match i with| 0=>rfl| 1=>rfl| i+2=>simp at Z;omega
  have a1:=h5 1 (.arr 1 l.length 0 l.length) C[1] rfl (by simp[U]);have L:hp [Bg.cells 239 [p,.arr 1 l.length 0 l.length],.rows 5 1 (map (Aa .u8) l)] 1 = .rows 5 1 (map (Aa .u8) l):=rfl;have u:=a1.arr_inv L ψ;have d:=s.obj 1;unfold Bw at d;rw[L]at d;obtain⟨_,J,d⟩:=d;rw[length_map]at J;rcases d with⟨_,G⟩|⟨g,A8,D,hg,g1,g2,g3,g4,g5,g6⟩
  .exact (q (by simpa using G)).elim
  .rw[length_map]at g5;unfold Gg at u;rw[hg]at u;simp only[Nat.zero_mul,Nat.zero_add,Nat.sub_zero]at u;obtain⟨ht,E⟩:=u;have c:(Fw l).length=l.length:=(by simp[Fw]);have f:∀(j:Nat) (x:UInt8),(Fw l)[j]? = some x->D[j]? = some (Value.int .u8 x.toNat):=(by intro j x hx;have hj:=Aty a6 hx;obtain⟨gg,q1,q2,q3⟩:=g6;have a3:(map (Aa .u8) l)[j]? = some (Aa .u8 x.toNat):=(by rw[getElem?_map,hj];rfl);have X:j<(map (Aa .u8) l).length:=(List.getElem?_eq_some_iff.1 a3).1;have q4:=q3 j 0 X ω;have q5:=(q2 j _ 0 _ a3 rfl).1;have:gg j 0=Value.int .u8 x.toNat:=(by generalize gg j 0=z at q5;cases q5;rfl);rw[this]at q4;simpa using q4);have O:w.heap[b]? = some (.cells #[C[0],.slice (some ⟨g,0,none⟩) (Fw l).length A8] 239 (0,0)):=(by rw[h3];congr 1;rw[c];have:C[1] = .slice (some ⟨g,0,none⟩) l.length A8:=E;rw[<-this,<-hC]);have R:l.length<=D.size:=(by rw[g4];omega);have call:=Tryz.builder_str b g A8 C[0] D (Fw l) w (by intro e;apply q;rw[<-length_eq_zero_iff,<-c,e];rfl) O g3 (by rw[c];exact g5) (by rw[c];exact R) (by rw[c];omega) f;refine call.mono ?_;rintro e w' ⟨rfl,rfl⟩;have I:(Fw l).length≠0:=(by rw[c];simpa using q);have Y:σ.le (Aj σ g (some (.cells D 5 (0,(Fw l).length)))):=(by intro b' o' a2;rw[Be _ _ (by intro e;subst e;rw[g1]at a2;cases a2)];exact a2);have V:(w.drew.freeze ⟨g,0,none⟩ (Fw l).length).heap[g]? = some (.cells D 5 (0,(Fw l).length)):=(by unfold World.freeze;rw[if_neg I];simp only[Array.getElem?_modify,if_true];have:w.drew.heap[g]? = some (.cells D 5 (0,0)):=g3;rw[this];simp);have M:∀b,b≠g->(w.drew.freeze ⟨g,0,none⟩ (Fw l).length).heap[b]? = w.heap[b]?:=by
    intro b hb;unfold World.freeze;split
    .rfl
    .simp only[Array.getElem?_modify];rw[if_neg (Ne.symm hb)];rfl
   have le:Le σ ι (hp [Bg.cells 239 [p,.arr 1 l.length 0 l.length],.rows 5 1 (map (Aa .u8) l)]) (Aj σ g (some (.cells D 5 (0,(Fw l).length)))) ι (Aj (hp [Bg.cells 239 [p,.arr 1 l.length 0 l.length],.rows 5 1 (map (Aa .u8) l)]) 1 .dead):=(by have:=Le.upd (ι:=ι) (H:=hp [Bg.cells 239 [p,.arr 1 l.length 0 l.length],.rows 5 1 (map (Aa .u8) l)]) Y 1 (ι 1) .dead ⟨λ_ e=>e,(λ_ e=>by cases e),(λ_ E1 ab aa e=>by cases e)⟩;rwa [Hk]at this);have eH:Aj (Aj (hp [Bg.cells 239 [p,.arr 1 l.length 0 l.length],.rows 5 1 (map (Aa .u8) l)]) 1 .dead) 0 (.cells 239 [p,.fb ⟨(Fw l).toArray⟩])=hp [Bg.cells 239 [p,.fb ⟨(Fw l).toArray⟩],.dead]:=by
    funext i
    match i with| 0=>rfl| 1=>rfl| i+2=>rfl
   have a8:b≠g:=(by intro e;have:=s.inj 0 1 g rfl rfl (by rw[hb,e];rfl) (by rw[hg];rfl);cases this);have s2:St (Aj σ g (some (.cells D 5 (0,(Fw l).length)))) ι (Aj (hp [Bg.cells 239 [p,.arr 1 l.length 0 l.length],.rows 5 1 (map (Aa .u8) l)]) 1 .dead) F W (w.drew.freeze ⟨g,0,none⟩ (Fw l).length):=by
    refine s.touch (hdrw:=by unfold World.freeze;split <;> exact Nat.le_succ _) 1 g (λ_ _=>rfl) (λx e=>Be _ _ e) le M (λx e=>Be _ _ e) (λo A=>by rw[Ba]at A;cases A;exact V) ?_ g2 ?_ ?_ ?_ ?_ ?_
    .intro x hx S a7;exact hx (s.inj x 1 g S rfl a7 (by rw[hg];rfl))
    .intro b0 S;rw[Ba]at S;cases S
    .unfold Bw;rw[Ba];trivial
    .unfold World.freeze;split <;> rfl
    .unfold World.freeze;split <;> rfl
    .unfold World.freeze;split <;> rfl
   obtain⟨s3,B⟩:=s2.fbox (b:=b) (C:=#[C[0],.slice (some ⟨g,0,none⟩) (Fw l).length A8]) (s:=⟨(Fw l).toArray⟩) (by rfl) hb ((M b a8).trans O) (λv y=>by simp only[getElem?_toArray,getElem?_cons_succ,getElem?_cons_zero,Option.some.injEq]at y;subst y;have k:(ByteArray.mk (Fw l).toArray).size=(Fw l).length:=(by simp[ByteArray.size]);rw[<-k];refine .fb _ g A8 D (by rw[Ba,k]) (by rw[k];exact I) (by rw[k,c];omega) (by rw[k,c];exact R) (by rw[k,c];omega) λj x hx=>f j x (by simpa using hx));rw[eH]at s3 B;exact⟨_,_,ι,rfl,le.trans B,s3,.of_val _⟩
 .cases h
end Go.Ab
namespace Go.Ab
open Go Go.Proofs Go.Proofs.Tryz
set_option linter.unusedVariables false
class OK {α:Type} (o:Option α) (G:outParam (α->Prop)):Prop where
 ok:∀{r:α},o=some r->G r
theorem okz {α:Type} {G:α->Prop}:OK (none:Option α) G:=⟨λh=>by cases h⟩
section
variable {P:Program} {C:Cfg} {O:Nat->Bs->Hp->Prop} {D:Nat->Nat->Bs->Hp->Prop} {I:Nat->Bs->Hp->Prop} {n:Nat} {e:Bs} {H:Hp} {β:Type} {r:β}
variable {T:Cw} {an:Nat->Ann} {nl:Nat->List (Nat×Nat)} {ops:Array Oper} {o:Oper} {os:List Oper} {acc:Je} {K:Nat->Bs->Hp->Je->Prop}
variable {c:Code} {fn:Func} {f:FuncId} {hi i lo:Int} {xs ys zs:List AV} {hs:List Bg} {b kk V:Nat} {E S α:Type} {J:E->Option β} {l:List α} {g:List α->List AV} {m:List α->Option β} {s0:S} {A:S->List (Nat×AV)} {hv:S->List (Nat×Bg)} {x:α} {u:α->AV} {G:α->Prop}
theorem G1 {p:Nat×Bool} {s:Nat} {b:Bool} {m X:Option β} (h:(bif b then m else X)=some r) (d:b=true->m=some r->Dp (Ey P T an nl ops (o::os) n (Aj e s (.val (.bool true))) H acc K)) (j:b=false->X=some r->Dp (Ey P T an nl ops (o::os) n (Aj e s (.val (.bool false))) H acc K)) (k:o.guard=some p:=by exact rfl) (hs:(ops[p.1]?).bind (·.dst)=some s:=by exact rfl) (hb:e s = .val (.bool b):=by exact rfl):Dp (Ey P T an nl ops (o::os) n e H acc K):=As6 h d j hb
theorem nw (k:wc P C c O D I n e H):Dp (wc P C c O D I n e H):=.mk k
theorem B1 {o:S⊕E} {x:E} (h:some (Sum.inr x)=some o) (d:∀x,Sum.inr x=o->J x=some r:=by assumption):J x=some r:=d x (Option.some.inj h)
theorem lpj {o:S} {J:S->Option β} {x:S} (h:some x=some o) (d:∀y,y=o->J y=some r:=by assumption):J x=some r:=d x (Option.some.inj h)
theorem lpn {o:S⊕E} {s':S} {K:Nat->Bs->Hp->Prop} {d:S->Prop} {H0:Hp} (h:some (Sum.inl s')=some o) (q:∀s' s j k,Sum.inl s'=o->Fo j (A s')->Fv k (Bz H0 (hv s')) V V->d s'->K s j k:=by assumption) (hs:Fo e (A s'):=by (repeat refine⟨rfl,?_⟩);exact trivial) (u:Fv H (Bz H0 (hv s')) V V:=by (repeat (first|refine⟨⟨rfl,rfl⟩,?_⟩|refine⟨⟨rfl,Gl⟩,?_⟩|refine⟨⟨rfl,Ug rfl⟩,?_⟩));exact trivial) (hi:d s':=by first|trivial|exact rfl | ((repeat refine E2 ?_ _ _);first|exact rfl|assumption)):K n e H:=q s' n e H (Option.some.inj h) hs u hi
theorem jnn {o x:E} {s:S} {J:S->Prop} {K:Nat->Bs->Hp->Prop} {H0:Hp} (h:some x=some o) (k:∀s q d j,J s->Fo d (A s)->Fv j (Bz H0 (hv s)) V V->K q d j:=by assumption) (u:J s:=by exact Option.some.inj h) (hs:Fo e (A s):=by (repeat refine⟨rfl,?_⟩);exact trivial) (y:Fv H (Bz H0 (hv s)) V V:=by (repeat (first|refine⟨⟨rfl,rfl⟩,?_⟩|refine⟨⟨rfl,Gl⟩,?_⟩|refine⟨⟨rfl,Ug rfl⟩,?_⟩));exact trivial):K n e H:=k s n e H u hs y
theorem S4 {o:Option α} {m:α->Option β} {args:List AV} {K:Eff->Nat->Prop} (h:o.bind m=some r) [i:OK o G] (k:∀v,m v=some r->K ⟨u v,[],[]⟩ n) (d:∀v,G v->A4 P f args (u v):=by exact λ_ h=>h) (j:args.all AV.free=true:=by exact rfl):D1 P n H f args K := C7 h λv hv h=>D1.mk _ (d v (i.ok hv)) j (k v h)
theorem Ajr {o:Option α} {m:α->Option β} {args d:List AV} {K:Eff->Nat->Prop} (h:o.bind m=some r) [i:OK o G] (k:∀v,m v=some r->K ⟨u v,[],[]⟩ n) (j:∀v,G v->A4 P f d (u v):=by exact λ_ h=>h) (hs:N8 args d:=by (repeat first|refine⟨Sub.refl _,?_⟩|refine⟨Sub.nil _,?_⟩);exact trivial) (q:args.all AV.free=true:=by exact rfl):D1 P n H f args K := C7 h λv hv h=>D1.mk _ (A4.sub (j v (i.ok hv)) hs (Sub.refl _)) q (k v h)
theorem No {o:Option α} {m:α->Option β} {args largs:List AV} {hs':α->List Bg} {K:Eff->Nat->Prop} (l:List Nat) (h:o.bind m=some r) [i:OK o G] (k:∀v,m v=some r->K ⟨ren (C4 n l) (u v),Eg (C4 n l) 0 hs++Ca (C4 n l) l.length ((hs' v).length-l.length),Eg (C4 n l) 0 (hs' v)⟩ (n+((hs' v).length-l.length))) (d:∀v,G v->Bt P f largs hs (u v) (hs' v):=by exact λ_ h=>h) (j:largs.map (ren (C4 n l))=args:=by exact rfl) (ok:∀v,Hm n l largs hs (u v) (hs' v)=true:=by exact λ_=>rfl) (q:L5 H (Eg (C4 n l) 0 hs):=by (repeat refine⟨rfl,?_⟩);exact trivial):D1 P n H f args K := C7 h λv hv h=>D1.act l largs hs (u v) (hs' v) (d v (i.ok hv)) j (ok v) q (k v h)
theorem Gm {f:α->AV} {m:α->Option β} {K:Nat->AV->Prop} (h:(Af l i).bind m=some r) (k:∀(n:Nat) (x:α),i=n->l[n]? = some x->m x=some r->K n (f x)) (d:ys=l.map f:=by first|exact rfl|exact Ji _|exact Bo _):Rg ys i K:=Ab9 d h k
theorem E7 {f:α->AV} {m:α->Option β} {K:Nat->Prop} {len:Nat} (h:(Af l i).bind m=some r) (k:∀(n:Nat) (x:α),i=n->l[n]? = some x->m x=some r->K n) (d:ys=l.map f:=by first|exact rfl|exact Ji _|exact Bo _) (j:len=l.length:=by first|exact rfl|assumption|exact Ip (by assumption) | ((repeat refine E2 ?_ _ _);first|exact rfl|assumption)) (q:kk=l.length:=by first|exact rfl|assumption|exact Ip (by assumption) | ((repeat refine E2 ?_ _ _);first|exact rfl|assumption)):Pi len kk ys i K:=As8 d j q h k
theorem S5 {f:α->AV} {m:α->Option β} {K:Nat->Prop} {off len:Nat} (h:(Jf l off len i).bind m=some r) (k:∀(n:Nat) (x:α),i=n->l[off+n]? = some x->m x=some r->K n) (d:ys=l.map f:=by first|exact rfl|exact Ji _|exact Bo _) (j:kk=l.length:=by first|exact rfl|assumption|exact Ip (by assumption) | ((repeat refine E2 ?_ _ _);first|exact rfl|assumption)):Pi len kk ys i K:=As9 d j h k
theorem Ow {f:α->AV} {K:Int->Prop} (k:K (l.length:Int)) (d:ys=l.map f:=by first|exact rfl|exact Ji _|exact Bo _):Ld ys K:=Aiy d k
theorem Ox {f:α->AV} {K:Prop} (k:K) (d:ys=l.map f:=by first|exact rfl|exact Ji _|exact Bo _) (h:kk=l.length:=by first|exact rfl|assumption|exact Ip (by assumption) | ((repeat refine E2 ?_ _ _);first|exact rfl|assumption)):Hg kk ys K:=Ath d h k
theorem Oy {K:Prop} (k:K):Hg 0 [] K:=.mk rfl k
theorem Oz {f:α->AV} {n i:Nat} {K:AV->Prop} (k:K (f x)) (d:ys=l.map f:=by first|exact rfl|exact Ji _|exact Bo _) (h:kk=l.length:=by first|exact rfl|assumption|exact Ip (by assumption) | ((repeat refine E2 ?_ _ _);first|exact rfl|assumption)) (hi:i=n/\l[n]? = some x:=by first|exact⟨Nat.zero_add _,by assumption⟩|exact⟨rfl,by assumption⟩):Km kk i ys K:=Atb d h hi.1 hi.2 k
theorem Ajs {f:α->AV} {n i:Nat} {j:Int} {p:AV} {K:List AV->Prop} (k:K ((Bk l j x).map f)) (d:ys=l.map f:=by first|exact rfl|exact Ji _|exact Bo _) (hp:p=f x:=by exact rfl) (hi:i=n/\j=(n:Int):=by first|exact⟨Nat.zero_add _,by assumption⟩|exact⟨rfl,by assumption⟩|exact⟨rfl,As7 _ (by assumption)⟩):Ri ys i p K:=M4 d hp hi.1 hi.2 k
theorem J9 {ys:List α} {f:α->AV} {len:Nat} {K:List AV->Nat->Prop} {j:List AV->Nat->Nat->Prop} (h:(Bl b l ys).bind m=some r) (k:∀o:List α,m o=some r->K (o.map f) o.length) (d:xs=l.map f/\zs=ys.map f:=by first|exact⟨rfl,rfl⟩ | (refine⟨?_,?_⟩;rotate_left;exact rfl;exact rfl)) (q:kk=l.length:=by first|exact rfl|assumption|exact Ip (by assumption) | ((repeat refine E2 ?_ _ _);first|exact rfl|assumption)) (s:len=l.length:=by first|exact rfl|assumption|exact Ip (by assumption) | ((repeat refine E2 ?_ _ _);first|exact rfl|assumption)):Kl xs zs kk len b K j:=Acb d.1 d.2 q s h k
theorem Ajt {l:List Int} {s:ByteArray} {len:Nat} {m:List Int->Option β} {K:List AV->Nat->Prop} {d:List AV->Nat->Nat->Prop} (h:(Bl b l (M3 s)).bind m=some r) (k:∀o:List Int,m o=some r->K (o.map λn=>.val (.int .u8 n)) o.length) (j:xs=l.map λn=>.val (.int .u8 n):=by exact rfl) (q:kk=l.length:=by first|exact rfl|assumption|exact Ip (by assumption) | ((repeat refine E2 ?_ _ _);first|exact rfl|assumption)) (u:len=l.length:=by first|exact rfl|assumption|exact Ip (by assumption) | ((repeat refine E2 ?_ _ _);first|exact rfl|assumption)):Kl xs (Iu s) kk len b K d:=Ate j q u h k
class GL {α:Type} (g:List α->List AV) (f:outParam (α->AV)):Prop where
 eq:∀l,g l=l.map f
instance:GL Bn Dl:=⟨Ji⟩
instance:GL Au De:=⟨Bo⟩
theorem Ka {f:α->AV} [i:GL g f] {ys:List α} {len:Nat} {K:List AV->Nat->Prop} {d:List AV->Nat->Nat->Prop} (h:(Bl b l ys).bind m=some r) (k:∀o:List α,m o=some r->K (g o) o.length) (j:zs=ys.map f:=by first|exact rfl|exact GL.eq _) (q:kk=l.length:=by first|exact rfl|assumption|exact Ip (by assumption) | ((repeat refine E2 ?_ _ _);first|exact rfl|assumption)) (s:len=l.length:=by first|exact rfl|assumption|exact Ip (by assumption) | ((repeat refine E2 ?_ _ _);first|exact rfl|assumption)):Kl (g l) zs kk len b K d:=Li i.eq (i.eq l) j q s h k
theorem Aju {ys:List α} {f:α->AV} {K:List AV->Nat->Prop} (h:(Bl b [] ys).bind m=some r) (k:∀o:List α,m o=some r->K (o.map f) o.length) (d:zs=ys.map f:=by exact rfl):Pj zs b K:=Aix d h k
theorem Ajv {f:α->AV} [i:GL g f] {ys:List α} {K:List AV->Nat->Prop} (h:(Bl b [] ys).bind m=some r) (k:∀o:List α,m o=some r->K (g o) o.length) (d:zs=g ys:=by exact rfl):Pj zs b K:=Atf i.eq (d.trans (i.eq ys)) h k
theorem H6 {z:α} {f:α->AV} {j:AV} {len d:Int} {K:Nat->List AV->Prop} (h:(F2 b len d z).bind m=some r) (k:∀o:List α,m o=some r->K o.length (o.map f)) (q:j=f z:=by first|exact (rfl:_=Aa _ _) | exact (rfl:_=An _) | exact rfl):Rh len d b j K:=Atg q h k
theorem V3 {f:α->AV} {K:List AV->Prop} (h:(Gk l lo hi).bind m=some r) (k:∀d:List α,m d=some r->K (d.map f)) (j:ys=l.map f:=by first|exact rfl|exact Ji _|exact Bo _):Lc ys lo hi K:=Aca j h k
theorem Ajw {f:α->AV} [i:GL g f] {K:List AV->Prop} (h:(Gk l lo hi).bind m=some r) (k:∀d:List α,m d=some r->K (g d)):Lc (g l) lo hi K:=Atc i.eq (i.eq l) h k
theorem Zk {f:α->AV} [i:GL g f] {K:List AV->Prop} (h:(Gk l lo l.length).bind m=some r) (k:∀d:List α,m d=some r->K (g d)):Lc (g l) lo (g l).length K:=Atd i.eq (i.eq l) h k
theorem Ajx {f:α->AV} {K:List AV->Prop} (h:(Gk l lo l.length).bind m=some r) (k:∀d:List α,m d=some r->K (d.map f)) (j:ys=l.map f:=by first|exact rfl|exact Ji _|exact Bo _):Lc ys lo ys.length K:=Aiw j h k
theorem Ct {step:S->Option (S⊕E)} {b:Code} (h:(Ak step s0).bind J=some r) (A:S->List (Nat×AV)) (hv:S->List (Nat×Bg)) (d:S->Prop) (j:∀(s:S) (u:Nat->Value) (K:Nat->Bs->Hp->Prop) (o:S⊕E),step s=some o->(∀x,.inr x=o->J x=some r)->(∀k z q y,.inl k=o->Fo q (A k)->Fv y (Bz H (hv k)) n n->d k->K z q y)->d s -> wc P C b K D I n (Ic (F1 b) e u (A s)) (Bz H (hv s))) (hb:∀s,Im n (A s) (hv s)=true:=by exact λ_=>rfl) (hs:Fo e (A s0):=by (repeat refine⟨rfl,?_⟩);exact trivial) (B:Fv H (Bz H (hv s0)) n n:=by (repeat (first|refine⟨⟨rfl,rfl⟩,?_⟩|refine⟨⟨rfl,Gl⟩,?_⟩|refine⟨⟨rfl,Ug rfl⟩,?_⟩));exact trivial) (h0:d s0:=by first|exact rfl|assumption|exact Ip (by assumption) | ((repeat refine E2 ?_ _ _);first|exact rfl|assumption)):wc P C (.loop b) O D I n e H:=Ai5 h A hv d hb hs B h0 j
theorem At0 {step:S->Option (S⊕E)} {b:Code} (h:(Ak step s0).bind J=some r) (A:S->List (Nat×AV)) (hv:S->List (Nat×Bg)) (d:∀(s:S) (u:Nat->Value) (K:Nat->Bs->Hp->Prop) (o:S⊕E),step s=some o->(∀x,.inr x=o->J x=some r)->(∀j y k q,.inl j=o->Fo k (A j)->Fv q (Bz H (hv j)) n n->True->K y k q) -> wc P C b K D I n (Ic (F1 b) e u (A s)) (Bz H (hv s))) (hb:∀s,Im n (A s) (hv s)=true:=by exact λ_=>rfl) (hs:Fo e (A s0):=by (repeat refine⟨rfl,?_⟩);exact trivial) (z:Fv H (Bz H (hv s0)) n n:=by (repeat (first|refine⟨⟨rfl,rfl⟩,?_⟩|refine⟨⟨rfl,Gl⟩,?_⟩|refine⟨⟨rfl,Ug rfl⟩,?_⟩));exact trivial):wc P C (.loop b) O D I n e H:=Ai5 h A hv (λ_=>True) hb hs z trivial λs u K o B L M _=>d s u K o B L M
theorem Zl {j:Type} {o:Option j} {m:j->Option β} (d:S->j) (h:o.bind m=some r) (A:S->List (Nat×AV)) (hv:S->List (Nat×Bg)) (B:∀x,o=some x->∀(K:Nat->Bs->Hp->Prop),(∀s L k q,d s=x->Fo k (A s)->Fv q (Bz H (hv s)) n n->K L k q)->(∀y,y=x->m y=some r)->wc P C c K D I n e H) (M:∀(s:S) (u:Nat->Value),m (d s)=some r->O n (Ic (F1 c) e u (A s)) (Bz H (hv s))) (hb:∀s,Im n (A s) (hv s)=true:=by exact λ_=>rfl):wc P C c O D I n e H := Ait h λx N z=>Pq (λs=>d s=x) A hv hb (λK R=>B x N K R z) λs u hs=>M s u (z _ hs)
theorem Nq {o:Option S} {m:S->Option β} (h:o.bind m=some r) (A:S->List (Nat×AV)) (hv:S->List (Nat×Bg)) (k:∀x,o=some x->∀(K:Nat->Bs->Hp->Prop),(∀s q d j,s=x->Fo d (A s)->Fv j (Bz H (hv s)) n n->K q d j)->(∀y,y=x->m y=some r)->wc P C c K D I n e H) (z:∀(s:S) (u:Nat->Value),m s=some r->O n (Ic (F1 c) e u (A s)) (Bz H (hv s))) (hb:∀s,Im n (A s) (hv s)=true:=by exact λ_=>rfl):wc P C c O D I n e H:=Zl (λs=>s) h A hv k z hb
abbrev C0:Cfg:={T:=Cb,an:=λ_=>.ask}
theorem pw {args:List AV} {r:AV} (C:Cfg) (k:prog.funcs[f]? = some fn) (hv:wc prog C c (λ_ e H=>Pm C.T fn.results.toList (· = r) e H) (λ_ _ _ _=>False) (λ_ e H=>Pm C.T fn.results.toList (· = r) e H) 0 (Rq args) H0) (q:C.T=Cb:=by exact rfl) (hb:fn.body=some c:=by exact rfl) (d:(fn.name == "runtime.NumGoroutine")=false:=by kernel_rfl) (j:Rr fn c args.length=true:=by kernel_rfl) (h:r.free=true:=by exact rfl):A4 prog f args r:=Ati (by rw[q];exact Ajg) T3 k hb d j h hv
theorem aw {args:List AV} {r:AV} {hs':List Bg} (C:Cfg) (j:Bool) (q:prog.funcs[f]? = some fn) (hv:wc prog C c (λ_ e H=>Pp C.T j fn.results.toList r hs' e H) (λ_ _ _ _=>False) (λ_ e H=>Pp C.T j fn.results.toList r hs' e H) hs.length (Rq args) (hp hs)) (s:C.T=Cb:=by exact rfl) (hb:fn.body=some c:=by exact rfl) (d:(fn.name == "runtime.NumGoroutine")=false:=by kernel_rfl) (k:Rr fn c args.length=true:=by kernel_rfl) (h:Ya hs r hs'=true:=by first|exact rfl | (simp only[Ya,all_cons,Gl];rfl)):Bt prog f args hs r hs':=Atj j (by rw[s];exact Ajg) T3 q hb d k h hv
end
variable {P Q:Prop}
theorem opk {P:Program} {T:Cw} {an:Nat->Ann} {nl:Nat->List (Nat×Nat)} {o:Oper} {n:Nat} {e:Bs} {H:Hp} {acc:Je} {K:Nat->Bs->Hp->Je->Prop} (k:opK P T an nl o n e H acc K):opK P T an nl o n e H acc K:=k
theorem cnd {t:Bool} {A B:Prop} (k:bif t then A else B):bif t then A else B:=k
structure Hd (Q:Prop):Prop where
 get:Q
theorem Z (k:Q) (h:Hd Q->P:=by
  intro q
  repeat first
    | ((with_reducible show Dp (Ey _ _ _ _ _ (_::_) _ _ _ _ _));(first|refine nx ?_|refine Oa ?_|refine N9 ?_))
    | ((with_reducible refine opk ?_);conv=>whnf
       first
      | ((with_reducible show Dp _);refine nw ?_)
      | ((with_reducible show Hy _ _ _);refine Hy.mk _ rfl ?_)
      | ((with_reducible show Ld _ _);refine Ow ?_)
      | ((with_reducible show Km _ _ _ _);refine Oz ?_)
      | ((with_reducible show Hg _ _ _);(first|refine Ox ?_|refine Oy ?_)))
    | ((with_reducible show Dp (Ey _ _ _ _ _ [] _ _ _ _ _));refine J3 ?_)
    | ((with_reducible show Dp (wc _ _ _ _ _ _ _ _ _));refine nw ?_)
    | with_reducible refine Ay ?_
    | with_reducible refine F7 ?_
    | with_reducible refine Acg ?_
    | with_reducible refine Iv ?_
    | with_reducible refine J4 ?_
    | with_reducible refine F3 ?_
    | with_reducible refine Acp ?_
    | with_reducible refine Ai2 ?_
    | with_reducible refine Aci ?_
    | with_reducible refine Ach ?_
    | ((with_reducible refine cnd ?_);first|refine F0 rfl ?_|refine Abw rfl ?_)
    | ((with_reducible show L8 _ _ _);refine L8.mk κ ?_)
    | ((with_reducible show wc _ _ (.cond _ _ _) _ _ _ _ _ _);first|refine Ye ?_|refine Ru ?_)
    | refine nw ?_
    | refine nx ?_
    | refine J3 ?_
    | refine Oa ?_
    | refine N9 ?_
    | (conv=>whnf
       first
      | ((with_reducible show Dp _);refine nw ?_)
      | ((with_reducible show Hy _ _ _);refine Hy.mk _ rfl ?_)
      | ((with_reducible show Ld _ _);refine Ow ?_)
      | ((with_reducible show Km _ _ _ _);refine Oz ?_)
      | ((with_reducible show Hg _ _ _);(first|refine Ox ?_|refine Oy ?_)))
  exact q.get):P:=h ⟨k⟩
theorem ZS (k:Q) (h:Hd Q->P:=by
  intro q
  repeat first
    | ((with_reducible show Dp (Ey _ _ _ _ _ (_::_) _ _ _ _ _));(first|refine nx ?_|refine Oa ?_|refine N9 ?_))
    | ((with_reducible refine opk ?_);conv=>whnf
       first
      | ((with_reducible show Dp _);refine nw ?_)
      | ((with_reducible show Hy _ _ _);refine Hy.mk _ rfl ?_)
      | ((with_reducible show Ld _ _);refine Ow ?_)
      | ((with_reducible show Km _ _ _ _);refine Oz ?_)
      | ((with_reducible show Hg _ _ _);(first|refine Ox ?_|refine Oy ?_)))
    | ((with_reducible show Dp (Ey _ _ _ _ _ [] _ _ _ _ _));refine J3 ?_)
    | ((with_reducible show Dp (wc _ _ _ _ _ _ _ _ _));refine nw ?_)
    | with_reducible refine Ay ?_
    | with_reducible refine Acg ?_
    | with_reducible refine Iv ?_
    | with_reducible refine J4 ?_
    | with_reducible refine F3 ?_
    | with_reducible refine Acp ?_
    | with_reducible refine Aci ?_
    | with_reducible refine Ach ?_
    | ((with_reducible refine cnd ?_);first|refine F0 rfl ?_|refine Abw rfl ?_)
    | ((with_reducible show L8 _ _ _);refine L8.mk κ ?_)
    | ((with_reducible show wc _ _ (.cond _ _ _) _ _ _ _ _ _);first|refine Ye ?_|refine Ru ?_)
    | refine nw ?_
    | refine nx ?_
    | refine J3 ?_
    | refine Oa ?_
    | refine N9 ?_
    | (conv=>whnf
       first
      | ((with_reducible show Dp _);refine nw ?_)
      | ((with_reducible show Hy _ _ _);refine Hy.mk _ rfl ?_)
      | ((with_reducible show Ld _ _);refine Ow ?_)
      | ((with_reducible show Km _ _ _ _);refine Oz ?_)
      | ((with_reducible show Hg _ _ _);(first|refine Ox ?_|refine Oy ?_)))
  exact q.get):P:=h ⟨k⟩
theorem ZO (k:Q) (h:Hd Q->P:=by
  intro q
  repeat first
    | ((with_reducible show Dp (Ey _ _ _ _ _ (_::_) _ _ _ _ _));(first|refine nx ?_|refine Oa ?_|refine N9 ?_))
    | ((with_reducible refine opk ?_);conv=>whnf
       first
      | ((with_reducible show Hy _ _ _);refine Hy.mk _ rfl ?_)
      | ((with_reducible show Ld _ _);refine Ow ?_)
      | ((with_reducible show Km _ _ _ _);refine Oz ?_)
      | ((with_reducible show Hg _ _ _);(first|refine Ox ?_|refine Oy ?_)))
    | ((with_reducible show Dp (Ey _ _ _ _ _ [] _ _ _ _ _));refine J3 ?_)
    | ((with_reducible show L8 _ _ _);refine L8.mk κ ?_)
    | refine nx ?_
    | refine J3 ?_
    | refine Oa ?_
    | refine N9 ?_
    | (conv=>whnf
       first
      | ((with_reducible show Hy _ _ _);refine Hy.mk _ rfl ?_)
      | ((with_reducible show Ld _ _);refine Ow ?_)
      | ((with_reducible show Km _ _ _ _);refine Oz ?_)
      | ((with_reducible show Hg _ _ _);(first|refine Ox ?_|refine Oy ?_)))
  exact q.get):P:=h ⟨k⟩
theorem Y (h:P:=by
  repeat' first
    | ((with_reducible show Dp (Ey _ _ _ _ _ (_::_) _ _ _ _ _));first|refine nx ?_|refine Oa ?_|refine N9 ?_|refine G1 h (λ_ h=>?_) λ_ h=>?_)
    | ((with_reducible refine opk ?_);conv=>whnf
       first
      | ((with_reducible show Dp _);refine nw ?_)
      | ((with_reducible show Hy _ _ _);refine Hy.mk _ rfl ?_)
      | ((with_reducible show Ld _ _);refine Ow ?_)
      | ((with_reducible show D1 _ _ _ _ _ _);(first|refine S4 h (λ_ h=>?_) | refine Ajr h λ_ h=>?_))
      | ((with_reducible show Rg _ _ _);refine Gm h λ_ _ _ _ h=>?_)
      | ((with_reducible show Pi _ _ _ _ _);(first|refine E7 h (λ_ _ _ _ h=>?_) | refine S5 h λ_ _ _ _ h=>?_))
      | ((with_reducible show Km _ _ _ _);refine Oz ?_)
      | ((with_reducible show Ri _ _ _ _);refine Ajs ?_)
      | ((with_reducible show Kl _ _ _ _ _ _ _);(first|refine Ajt h (λ_ h=>?_) | refine J9 h (λ_ h=>?_) | refine Ka h λ_ h=>?_))
      | ((with_reducible show Pj _ _ _);(first|refine Aju h (λ_ h=>?_) | refine Ajv h λ_ h=>?_))
      | ((with_reducible show Rh _ _ _ _ _);refine H6 h λ_ h=>?_)
      | ((with_reducible show Lc _ _ _ _);(first|refine Zk h (λ_ h=>?_) | refine Ajx h (λ_ h=>?_) | refine Ajw h (λ_ h=>?_) | refine V3 h λ_ h=>?_))
      | ((with_reducible show Hg _ _ _);(first|refine Ox ?_|refine Oy ?_))
      | ((with_reducible show Xs _ _ _);refine Lj h λ_ h=>?_)
      | ((with_reducible show Xo _ _ _ _);refine Ue h λ_ h=>?_)
      | ((with_reducible show Xp _ _ _);refine Yd h λ_ h=>?_)
      | ((with_reducible show Xq _ _ _ _);refine Ai0 h λ_ h=>?_)
      | ((with_reducible show Xr _ _ _ _);refine Ace h λ_ _ _ _ h=>?_)
      | ((with_reducible show Xt _ _);refine Hh h λh=>?_)
      | ((with_reducible show Xv _ _ _ _ _);refine Aiu h λ_ h=>?_)
      | ((with_reducible show Xw _ _ _ _);refine Aiv h λ_ h=>?_))
    | ((with_reducible show Dp (Ey _ _ _ _ _ [] _ _ _ _ _));refine J3 ?_)
    | ((with_reducible show Dp (wc _ _ _ _ _ _ _ _ _));refine nw ?_)
    | with_reducible refine Ay ?_
    | with_reducible refine F7 ?_
    | with_reducible refine Acg ?_
    | with_reducible refine Iv ?_
    | with_reducible refine J4 ?_
    | with_reducible refine F3 ?_
    | with_reducible refine Acp ?_
    | with_reducible refine Ai2 ?_
    | with_reducible refine Aci ?_
    | with_reducible refine Ach ?_
    | ((with_reducible refine cnd ?_);first|refine F0 rfl ?_|refine Abw rfl ?_)
    | ((with_reducible show wc _ _ (.cond _ _ _) _ _ _ _ _ _);first|refine C8 h (λ_ h=>?_) (λ_ h=>?_) | refine Ye ?_|refine Ru ?_)
    | ((with_reducible show L8 _ _ _);refine L8.mk κ ?_)
    | refine nx ?_
    | refine J3 ?_
    | refine Oa ?_
    | refine N9 ?_
    | refine G1 h (λ_ h=>?_) (λ_ h=>?_)
    | exact lpn h
    | exact jnn h
    | replace h:=B1 h
    | replace h:=lpj h
    | refine nw ?_
    | (conv=>whnf
       first
      | ((with_reducible show Dp _);refine nw ?_)
      | ((with_reducible show Hy _ _ _);refine Hy.mk _ rfl ?_)
      | ((with_reducible show Ld _ _);refine Ow ?_)
      | ((with_reducible show D1 _ _ _ _ _ _);(first|refine S4 h (λ_ h=>?_) | refine Ajr h λ_ h=>?_))
      | ((with_reducible show Rg _ _ _);refine Gm h λ_ _ _ _ h=>?_)
      | ((with_reducible show Pi _ _ _ _ _);(first|refine E7 h (λ_ _ _ _ h=>?_) | refine S5 h λ_ _ _ _ h=>?_))
      | ((with_reducible show Km _ _ _ _);refine Oz ?_)
      | ((with_reducible show Ri _ _ _ _);refine Ajs ?_)
      | ((with_reducible show Kl _ _ _ _ _ _ _);(first|refine Ajt h (λ_ h=>?_) | refine J9 h (λ_ h=>?_) | refine Ka h λ_ h=>?_))
      | ((with_reducible show Pj _ _ _);(first|refine Aju h (λ_ h=>?_) | refine Ajv h λ_ h=>?_))
      | ((with_reducible show Rh _ _ _ _ _);refine H6 h λ_ h=>?_)
      | ((with_reducible show Lc _ _ _ _);(first|refine Zk h (λ_ h=>?_) | refine Ajx h (λ_ h=>?_) | refine Ajw h (λ_ h=>?_) | refine V3 h λ_ h=>?_))
      | ((with_reducible show Hg _ _ _);(first|refine Ox ?_|refine Oy ?_))
      | ((with_reducible show Xs _ _ _);refine Lj h λ_ h=>?_)
      | ((with_reducible show Xo _ _ _ _);refine Ue h λ_ h=>?_)
      | ((with_reducible show Xp _ _ _);refine Yd h λ_ h=>?_)
      | ((with_reducible show Xq _ _ _ _);refine Ai0 h λ_ h=>?_)
      | ((with_reducible show Xr _ _ _ _);refine Ace h λ_ _ _ _ h=>?_)
      | ((with_reducible show Xt _ _);refine Hh h λh=>?_)
      | ((with_reducible show Xv _ _ _ _ _);refine Aiu h λ_ h=>?_)
      | ((with_reducible show Xw _ _ _ _);refine Aiv h λ_ h=>?_))
    | (have h:=Option.some.inj h;subst h;exact rfl)
    | (cases h;(repeat refine⟨rfl,?_⟩);exact trivial)
    | (cases h;done)
):P:=h
section
variable {P:Program} {C:Cfg} {O:Nat->Bs->Hp->Prop} {D:Nat->Nat->Bs->Hp->Prop} {I:Nat->Bs->Hp->Prop} {n:Nat} {e:Bs} {H:Hp} {β:Type} {r:β} {U Q:Prop}
variable {t:Bool} {a b:Code} {K:Eff->Nat->Prop} {f:FuncId} {largs:List AV} {hs:List Bg} {c:Operand} {m X:Option β} {S α:Type} {o:Option α} {u:α->AV} {hs':α->List Bg} {G:α->Prop}
theorem A6 (h:(bif t then m else X)=some r) (d:t=true->m=some r->wc P C a O D I n e H) (j:t=false->X=some r->wc P C b O D I n e H) (k:Hd (wc P C (.cond c a b) O D I n e H)->U:=by exact λq=>Z q.get) (s:ev e c = .val (.bool t):=by exact rfl):U:=k ⟨C8 h d j s⟩
theorem Bm (h:(bif t then m else X)=some r) (d:t=false->X=some r->wc P C b O D I n e H) (j:Hd (wc P C (.cond c a b) O D I n e H)->U:=by exact λq=>Z q.get) (k:ev e c = .val (.bool t):=by exact rfl) (s:t=true->m=some r->wc P C a O D I n e H:=by intro _ h;exact Y):U:=j ⟨C8 h s d k⟩
theorem A5 {E:Type} {step:S->Option (S⊕E)} {s0:S} {J:E->Option β} (h:(Ak step s0).bind J=some r) (A:S->List (Nat×AV)) (hv:S->List (Nat×Bg)) (d:∀(s:S) (u:Nat->Value) (K:Nat->Bs->Hp->Prop) (o:S⊕E),step s=some o->(∀x,.inr x=o->J x=some r)->(∀j z k y,.inl j=o->Fo k (A j)->Fv y (Bz H (hv j)) n n->True->K z k y) -> wc P C b K D I n (Ic (F1 b) e u (A s)) (Bz H (hv s))) (B:Hd (wc P C (.loop b) O D I n e H)->U:=by exact λq=>Z q.get) (hb:∀s,Im n (A s) (hv s)=true:=by exact λ_=>rfl) (hs:Fo e (A s0):=by (repeat refine⟨rfl,?_⟩);exact trivial) (L:Fv H (Bz H (hv s0)) n n:=by (repeat (first|refine⟨⟨rfl,rfl⟩,?_⟩|refine⟨⟨rfl,Gl⟩,?_⟩|refine⟨⟨rfl,Ug rfl⟩,?_⟩));exact trivial):U:=B ⟨At0 h A hv d hb hs L⟩
theorem Bp {m:α->Option β} {args:List AV} (h:o.bind m=some r) [i:OK o G] (k:∀v,m v=some r->K ⟨u v,[],[]⟩ n) (d:Hd (D1 P n H f args K)->U:=by exact λq=>Z q.get) (j:∀v,G v->A4 P f args (u v):=by exact λ_ h=>h) (s:args.all AV.free=true:=by exact rfl):U:=d ⟨S4 h k j s⟩
theorem B9 {l:List α} {f:α->AV} {ys:List AV} {i:Int} {m:α->Option β} {K:Nat->AV->Prop} (h:(Af l i).bind m=some r) (k:∀(n:Nat) (x:α),i=n->l[n]? = some x->m x=some r->K n (f x)) (d:Hd (Rg ys i K)->U:=by exact λq=>Z q.get) (j:ys=l.map f:=by first|exact rfl|exact Ji _|exact Bo _):U:=d ⟨Ab9 j h k⟩
theorem D7 {m:α->Option β} {args:List AV} (l:List Nat) (h:o.bind m=some r) [i:OK o G] (k:∀v,m v=some r->K ⟨ren (C4 n l) (u v),Eg (C4 n l) 0 hs++Ca (C4 n l) l.length ((hs' v).length-l.length),Eg (C4 n l) 0 (hs' v)⟩ (n+((hs' v).length-l.length))) (d:Hd (D1 P n H f args K)->U:=by exact λq=>Z q.get) (j:∀v,G v->Bt P f largs hs (u v) (hs' v):=by exact λ_ h=>h) (s:largs.map (ren (C4 n l))=args:=by exact rfl) (ok:∀v,Hm n l largs hs (u v) (hs' v)=true:=by exact λ_=>rfl) (y:L5 H (Eg (C4 n l) 0 hs):=by (repeat refine⟨rfl,?_⟩);exact trivial):U:=d ⟨No l h k j s ok y⟩
theorem Cr {m:α->Option β} {args:List AV} (l:List Nat) (h:o.bind m=some r) [i:OK o G] (d:Hd (D1 P n H f args K)->U:=by exact λq=>Z q.get) (j:∀v,G v->Bt P f largs hs (u v) (hs' v):=by exact λ_ h=>h) (s:largs.map (ren (C4 n l))=args:=by exact rfl) (ok:∀v,Hm n l largs hs (u v) (hs' v)=true:=by exact λ_=>rfl) (y:L5 H (Eg (C4 n l) 0 hs):=by (repeat refine⟨rfl,?_⟩);exact trivial) (k:∀v,m v=some r->K ⟨ren (C4 n l) (u v),Eg (C4 n l) 0 hs++Ca (C4 n l) l.length ((hs' v).length-l.length),Eg (C4 n l) 0 (hs' v)⟩ (n+((hs' v).length-l.length)):=by
 intro _ h
 exact Y):U:=d ⟨No l h k j s ok y⟩
theorem B5 {c:Code} {o:Option S} {m:S->Option β} (h:o.bind m=some r) (A:S->List (Nat×AV)) (hv:S->List (Nat×Bg)) (k:∀(s:S) (u:Nat->Value),m s=some r->O n (Ic (F1 c) e u (A s)) (Bz H (hv s))) (hb:∀s,Im n (A s) (hv s)=true:=by exact λ_=>rfl) (q:∀x,o=some x->∀(K:Nat->Bs->Hp->Prop),(∀s z d j,s=x->Fo d (A s)->Fv j (Bz H (hv s)) n n->K z d j)->(∀y,y=x->m y=some r)->wc P C c K D I n e H:=by
 intro _ h _ _ _
 exact Y):wc P C c O D I n e H:=Nq h A hv q k hb
theorem ZR {id:Nat} {os:List Oper} (k:Q) (d:Hd (wc P C (.region id os.toArray false) O D I n e H)->U:=by exact λq=>ZS q.get) (h:Hd Q->Dp (Ey P C.T C.an C.nl os.toArray os n e H [] λn e H _=>O n e H):=by exact λq=>ZO q.get):U:=d ⟨F7 (h ⟨k⟩)⟩
end
set_option maxRecDepth 10000
theorem At1 {a0 r:List Gd} (h:Bl 16 [] a0=some r):A4 prog 74 [A3 2 Iw a0] (A3 2 Iw r):=by
 have h:((Bl 16 [] a0).bind λo=>some o)=some r:=by rw[h];rfl
 refine pw {T:=Cb,an:=(λs=>bif Nat.beq s 5 then .own else .ask),nl:=(λs=>bif Nat.beq s 2 then [(0,2)] else [])} func74 ?_;refine Ay ?_;refine F7 ?_;refine ZO ?_;refine Ay (Ay ?_);refine Pq (λb:Bool=>b=true->a0 = []) (λb=>[(4,An b)]) (λ_=>[]) (λ_=>rfl) ?_ ?_
 .intro K j;refine Ui 0 ?_;intro v hv;obtain⟨p,c,rfl,hp⟩:=hv 2 (a0.map Iw) rfl;refine F7 ?_;refine nx ?_;refine nx ?_;refine J3 ?_;refine j p.isNone _ _ _ (λe=>?_) ⟨rfl,trivial⟩ trivial;cases p with| none=>simpa using hp rfl| some _=>cases e
 .rintro b _ d;cases b with
  | true=>have d:=d rfl;subst d;have h:some ([]:List Gd)=some r:=(by rw[<-h];rfl);exact Y
  | false=>refine Z ?_;exact Y
theorem At2 {a0:List Cn} {r:List Cn×List Cn} (h:Ma 40 a0=some r):Bt prog 185 [A3 3 Fh a0] [] (.arr 1 r.2.length 0 r.2.length) [.rows 62 3 (r.1.map Fh),.rows 62 3 (r.2.map Fh)]:=by
 have h:((Bl 40 [] a0).bind λo=>some (([]:List Cn),o))=some r:=h;refine aw {T:=Cb,an:=(λs=>bif Nat.beq s 5 then .own else bif Nat.beq s 2 then .own else .ask),nl:=(λ_=>[])} false func185 ?_;refine Ay ?_;refine F7 ?_;refine ZO ?_;refine Ay (Ay ?_);refine Pq (λb:Bool=>b=true->a0 = []) (λb=>[(4,An b)]) (λ_=>[]) (λ_=>rfl) ?_ ?_
 .intro K j;refine Ui 0 ?_;intro v hv;obtain⟨p,c,rfl,hp⟩:=hv 3 (a0.map Fh) rfl;refine F7 ?_;refine nx ?_;refine nx ?_;refine J3 ?_;refine j p.isNone _ _ _ (λe=>?_) ⟨rfl,trivial⟩ ⟨⟨rfl,rfl⟩,trivial⟩;cases p with| none=>simpa using hp rfl| some _=>cases e
 .rintro b _ d;cases b with
  | true=>have d:=d rfl;subst d;have h:some (([]:List Cn),([]:List Cn))=some r:=(by rw[<-h];rfl);cases h;refine ZO ?_;exact Y
  | false=>refine Z ?_;refine ZO ?_;refine J9 h λ_ h=>?_;exact Y
theorem At3 {a0:List B8} {r:List B8×List B8} (h:Ma 40 a0=some r):Bt prog 191 [A3 3 Eu a0] [] (.arr 1 r.2.length 0 r.2.length) [.rows 65 3 (r.1.map Eu),.rows 65 3 (r.2.map Eu)]:=by
 have h:((Bl 40 [] a0).bind λo=>some (([]:List B8),o))=some r:=h;refine aw {T:=Cb,an:=(λs=>bif Nat.beq s 5 then .own else bif Nat.beq s 2 then .own else .ask),nl:=(λ_=>[])} false func191 ?_;refine Ay ?_;refine F7 ?_;refine ZO ?_;refine Ay (Ay ?_);refine Pq (λb:Bool=>b=true->a0 = []) (λb=>[(4,An b)]) (λ_=>[]) (λ_=>rfl) ?_ ?_
 .intro K j;refine Ui 0 ?_;intro v hv;obtain⟨p,c,rfl,hp⟩:=hv 3 (a0.map Eu) rfl;refine F7 ?_;refine nx ?_;refine nx ?_;refine J3 ?_;refine j p.isNone _ _ _ (λe=>?_) ⟨rfl,trivial⟩ ⟨⟨rfl,rfl⟩,trivial⟩;cases p with| none=>simpa using hp rfl| some _=>cases e
 .rintro b _ d;cases b with
  | true=>have d:=d rfl;subst d;have h:some (([]:List B8),([]:List B8))=some r:=(by rw[<-h];rfl);cases h;refine ZO ?_;exact Y
  | false=>refine Z ?_;refine ZO ?_;refine J9 h λ_ h=>?_;exact Y
theorem At4 {a0:List Ae} {r:List Ae×List Ae} (h:Ma 32 a0=some r):Bt prog 158 [A3 2 De a0] [] (.arr 1 r.2.length 0 r.2.length) [.rows 60 2 (r.1.map De),.rows 60 2 (r.2.map De)]:=by
 have h:((Bl 32 [] a0).bind λo=>some (([]:List Ae),o))=some r:=h;refine aw {T:=Cb,an:=(λs=>bif Nat.beq s 5 then .own else bif Nat.beq s 2 then .own else .ask),nl:=(λ_=>[])} false func158 ?_;refine Ay ?_;refine F7 ?_;refine ZO ?_;refine Ay (Ay ?_);refine Pq (λb:Bool=>b=true->a0 = []) (λb=>[(4,An b)]) (λ_=>[]) (λ_=>rfl) ?_ ?_
 .intro K j;refine Ui 0 ?_;intro v hv;obtain⟨p,c,rfl,hp⟩:=hv 2 (a0.map De) rfl;refine F7 ?_;refine nx ?_;refine nx ?_;refine J3 ?_;refine j p.isNone _ _ _ (λe=>?_) ⟨rfl,trivial⟩ ⟨⟨rfl,rfl⟩,trivial⟩;cases p with| none=>simpa using hp rfl| some _=>cases e
 .rintro b _ d;cases b with
  | true=>have d:=d rfl;subst d;have h:some (([]:List Ae),([]:List Ae))=some r:=(by rw[<-h];rfl);cases h;refine ZO ?_;exact Y
  | false=>refine Z ?_;refine ZO ?_;refine J9 h λ_ h=>?_;exact Y
theorem At5 {a0:List Aq} {r:List Aq×List Aq} (h:Ma 48 a0=some r):Bt prog 63 [A3 2 Dc a0] [] (.arr 1 r.2.length 0 r.2.length) [.rows 43 2 (r.1.map Dc),.rows 43 2 (r.2.map Dc)]:=by
 have h:((Bl 48 [] a0).bind λo=>some (([]:List Aq),o))=some r:=h;refine aw {T:=Cb,an:=(λs=>bif Nat.beq s 5 then .own else bif Nat.beq s 2 then .own else .ask),nl:=(λ_=>[])} false func63 ?_;refine Ay ?_;refine F7 ?_;refine ZO ?_;refine Ay (Ay ?_);refine Pq (λb:Bool=>b=true->a0 = []) (λb=>[(4,An b)]) (λ_=>[]) (λ_=>rfl) ?_ ?_
 .intro K j;refine Ui 0 ?_;intro v hv;obtain⟨p,c,rfl,hp⟩:=hv 2 (a0.map Dc) rfl;refine F7 ?_;refine nx ?_;refine nx ?_;refine J3 ?_;refine j p.isNone _ _ _ (λe=>?_) ⟨rfl,trivial⟩ ⟨⟨rfl,rfl⟩,trivial⟩;cases p with| none=>simpa using hp rfl| some _=>cases e
 .rintro b _ d;cases b with
  | true=>have d:=d rfl;subst d;have h:some (([]:List Aq),([]:List Aq))=some r:=(by rw[<-h];rfl);cases h;refine ZO ?_;exact Y
  | false=>refine Z ?_;refine ZO ?_;refine J9 h λ_ h=>?_;exact Y
end Go.Ab
namespace Go.Ab
open Go Go.Proofs Go.Shelf Go.Proofs.Tryz
set_option maxRecDepth 100000
set_option linter.unusedVariables false
variable {F σ:Aw} {ι:Bq} {H:Hp} {w:World}
theorem Bw.up {w':World} {x:Nat} (h:Bw σ ι H F w x) (hk:∀(b:Nat) (o:Obj),w.heap[b]? = some o->w'.heap[b]? = some o):Bw σ ι H F w' x:=by
 unfold Bw at h ⊢;cases hx:H x with
 | none=>rw[hx]at h;exact h
 | dead=>trivial
 | cells E cs=>rw[hx]at h;obtain⟨b,C,h1,h2,h3,f,c⟩:=h;exact⟨b,C,h1,h2,h3,hk _ _ f,c⟩
 | rows E sz xs=>
  rw[hx]at h;obtain⟨h0,h1,h2⟩:=h;refine⟨h0,h1,?_⟩;rcases h2 with h2|⟨b,A8,C,y,u,s,k,j⟩
  .exact .inl h2
  .exact .inr ⟨b,A8,C,y,u,s,hk _ _ k,j⟩
 | map es=>rw[hx]at h;obtain⟨b,M,t,h1,h2,h3,f,c⟩:=h;exact⟨b,M,t,h1,h2,h3,hk _ _ f,c⟩
 | nest E d sz ys=>rw[hx]at h;refine Gc.keep (Le.refl _ _ _) (λb hb=>⟨λq=>q,λq=>q,?_⟩) h;have i:w.heap[b]? = some (w.heap[b]'(Gc.block h hb).1):=Array.getElem?_eq_getElem _;rw[hk b _ i,i]
theorem St.growG {W:World} (s:St σ ι H F W w) (k:Nat) (os:Array Obj):St σ ι H F W (Sort.grow (Sort.ahead w k) os):=by
 have hk:∀(b:Nat) (o:Obj),w.heap[b]? = some o->(Sort.grow (Sort.ahead w k) os).heap[b]? = some o:=by intro b o h;have c:=(Array.getElem?_eq_some_iff.1 h).1;show (w.heap++os)[b]? = _;rw[Array.getElem?_append_left c];exact h
 exact⟨λb o h=>hk b o (s.sto b o h),λb o h=>⟨hk b o (s.fra b o h).1,(s.fra b o h).2⟩,λh=>(s.obj h).up hk,s.inj,s.os,s.tape,s.output,s.glo,Nat.le_trans s.drw (Nat.le_add_right _ _)⟩
theorem At6 {α:Type} [Inhabited α] (enc:α->Value) (w:World) (b:Nat) (d:Array α) (C:Array Value) (E:TypeId) (h:w.heap[b]? = some (.cells C E (0,0))):Sort.putRow enc w b 0 d=w.setRow b (Sort.putCells enc 0 d C):=by
 have c:(Sort.putRow enc w b 0 d).heap=(w.setRow b (Sort.putCells enc 0 d C)).heap:=by
  apply Array.ext_getElem?;intro i;simp only[Sort.putRow,Sort.mapBlock,World.setRow,Array.getElem?_modify];split
  .rename_i e;subst e;rw[h];simp[Sort.onCells]
  .rfl
 unfold Sort.putRow Sort.mapBlock World.setRow at c ⊢;simp only at c;rw[c]
end Go.Ab
namespace Go.Ab
open Go Go.Proofs Go.Shelf Go.Sort Go.Proofs.Tryz
set_option maxRecDepth 100000
set_option linter.unusedVariables false
variable {σ:Aw} {ι:Bq} {f g sz:Nat} {ρ:Ren} {α:Type} {E:TypeId} {v:Value} {W:World} {b l r:List α} {eA:α->AV} {cmp:α->α->Option Int}
theorem At7 (h:Dy v=true):v.oneCell'=true:=by cases v <;> first|rfl|cases h
theorem A0y {H:Hp} {f:FuncId} (h:Conc σ ι H (.fn f []) v):v = .func (.func f) #[] #[]:=by cases h with| cc h=>cases h| fn _ _ vs b _=>have:vs = #[]:=Array.size_eq_zero_iff.1 (by simpa using b);rw[this]
def Ajy (σ:Aw) (eA:α->AV) (sz:Nat) (S:List α) (x:α) (c:List Value):Prop := x∈S/\(eA x).cells.length=sz/\c.length=sz/\∀(j:Nat) (a:AV) (v:Value),(eA x).cells[j]? = some a->c[j]? = some v->CC σ a v/\Dy v=true
abbrev Mm {α:Type} (σ:Aw) (eA:α->AV) (sz:Nat) (S:List α):Type:={p:α×List Value // Ajy σ eA sz S p.1 p.2}
theorem At8 {w':World} (j:∀b o,W.heap[b]? = some o->σ b=some o) (s:St σ ι0 H0 (λ_=>none) W w'):∃q f,w'=grow (W.drewN q) f:=by
 have z:∀b o,W.heap[b]? = some o->w'.heap[b]? = some o:=λb o h=>s.sto b o (j b o h);have k:W.heap.size<=w'.heap.size:=by
  rcases Nat.eq_zero_or_pos W.heap.size with h|h
  .omega
  .have:=z (W.heap.size-1) _ (Array.getElem?_eq_getElem ω);have:=(Array.getElem?_eq_some_iff.1 this).1;omega
 refine⟨w'.drawn-W.drawn,w'.heap.extract W.heap.size w'.heap.size,?_⟩;have c:w'.heap=W.heap++w'.heap.extract W.heap.size w'.heap.size:=by
  apply Array.ext_getElem?;intro i;by_cases hi:i<W.heap.size
  .rw[Array.getElem?_append_left hi,Array.getElem?_eq_getElem hi];exact z i _ (Array.getElem?_eq_getElem hi)
  .rw[Array.getElem?_append_right ω];by_cases M:i<w'.heap.size
   .rw[Array.getElem?_eq_getElem M,Array.getElem?_eq_getElem ζ];simp only[Array.getElem_extract];congr 2;omega
   .rw[Array.getElem?_eq_none ω,Array.getElem?_eq_none ζ]
 have A:=s.os;have B:=s.tape;have D:=s.output;have u:=s.drw;cases w' with| mk I L y os d=>simp only at A B D u c;unfold grow World.drewN;simp only[World.mk.injEq];exact⟨c,B,ω,A,D⟩
theorem Ajz {caps cas:List AV} {os:List Bg} (L:SlLaysF0.n6 prog ρ) (hf:ρ.f 6=f) (ac:Rf prog f) (aE:∀w,(isAgg (ρ.t 24)).run prog w = .ok true w) (zE:∀w,(Go.sizeOf (ρ.t 24)).run prog w = .ok sz w) (eg:∀args w,(callFunc g args).run prog w = .ok (.enter g args) w) (b3:∀x y n,cmp x y=some n->A4 prog g (eA x::eA y::cas) (Aa .i64 n)) (bh:∀(xs:List AV) (σ F:Aw) (W w:World) (ι:Bq) (vs:Array Value) (σ1:Aw),St σ ι (hp (.rows E sz xs::os)) F W w->(∀(i:Nat) (c:AV) (u:Value),caps[i]? = some c->vs[i]? = some u->Conc σ ι (hp (.rows E sz xs::os)) c u)->σ.le σ1 -> (∀b o,(∀t,ι 0≠.blk b t)->w.heap[b]? = some o->σ1 b=some o)->∀(i:Nat) (c:AV) (u:Value),cas[i]? = some c->vs[i]? = some u->CC σ1 c u) (bl:cas.length=caps.length) (b6:∀x,∃cs,eA x = .agg cs) {q:List α} (h:∃o,Ku cmp q o) (ap:q≠[]) : N4 prog f [.arr 0 q.length 0 q.length,.fn g caps] (.rows E sz (q.map eA)::os) (λa bd=>∃o,Ku cmp q o/\a = .tup []/\bd = .rows E sz (o.map eA)::os):=by
 obtain⟨_,cf,a4,b4,_⟩:=h;refine⟨ac,λσ F W w ι vs s az=>?_⟩;obtain⟨v,v2,rfl,G,b9⟩:=Ad9 az;obtain⟨cv,rfl,bk,bj⟩:=b9.fn_inv;have hh:hp (.rows E sz (q.map eA)::os) 0 = .rows E sz (q.map eA):=rfl;have U:=G.arr_inv hh ψ;have a3:=s.obj 0;unfold Bw at a3;rw[hh]at a3;obtain⟨V,ar,a3⟩:=a3;rw[length_map]at ar;rcases a3 with⟨_,am⟩|⟨b,A8,D,hb,g1,g2,g3,g4,g5,g6⟩
 .exact (ap (by simpa using am)).elim
 rw[length_map]at g5;unfold Gg at U;rw[hb]at U;simp only[Nat.zero_mul,Nat.sub_zero]at U;obtain⟨ht,ag⟩:=U;subst ag;obtain⟨gg,q1,q2,q3⟩:=g6;have af:∀(i:Nat) (x:α),q[i]? = some x->(q.map eA)[i]? = some (eA x):=λi x hx=>by rw[getElem?_map,hx];rfl
 have aa:∀(i:Nat) (hi:i<q.length),Ajy σ eA sz q q[i] ((range sz).map (gg i)):=by intro i hi;have hx:q[i]? = some q[i]:=getElem?_eq_getElem hi;refine⟨getElem_mem hi,q1 i _ (af i _ hx),ψ,λj a v ha G=>?_⟩;rw[getElem?_map,Option.map_eq_some_iff]at G;obtain⟨k,hk,rfl⟩:=G;have bf:k=j:=(by have:=(List.getElem?_eq_some_iff.1 hk).2;simpa using this.symm);subst bf;exact q2 i _ k a (af i _ hx) ha
 have a5:0<q.length:=length_pos_iff.2 ap;let d:Array (Mm σ eA sz q):=Array.ofFn λi:Fin q.length=>⟨(q[i.1],(range sz).map (gg i.1)),aa i.1 i.2⟩
 haveI:Inhabited (Mm σ eA sz q):=⟨⟨(q[0],(range sz).map (gg 0)),aa 0 a5⟩⟩;have I:d.size=q.length:=by simp[d]
 have bi:∀i (hi:i<q.length),d[i]! = ⟨(q[i],(range sz).map (gg i)),aa i hi⟩:=λi hi=>by rw[getElem!_pos d i (by rw[I];exact hi)];simp[d]
 let a2:Mm σ eA sz q->List Value:=λp=>p.1.2
 have hk:∀x:Mm σ eA sz q,(a2 x).length=sz:=λx=>x.2.2.2.1;have h1:∀x:Mm σ eA sz q,∀v∈a2 x,v.oneCell'=true:=by intro x v G;obtain⟨j,hj⟩:=getElem?_of_mem G;have A:=(List.getElem?_eq_some_iff.1 hj).1;rw[hk x]at A;have ha:(eA x.1.1).cells[j]? = some ((eA x.1.1).cells[j]'(by rw[x.2.2.1];exact A)):=getElem?_eq_getElem _;exact At7 (x.2.2.2.2 j _ v ha hj).2
 let ad:Mm σ eA sz q->Mm σ eA sz q->Int:=λx y=>cf x.1.1 y.1.1
 have hO:SWO (ltOf ad):=by
  constructor
  .intro x;exact decide_eq_false (a4.irr x.1.1)
  .intro x y z a1 Z;exact decide_eq_true (a4.trs _ _ _ (of_decide_eq_true a1) (of_decide_eq_true Z))
  .intro x y z a1 Z;exact decide_eq_false (a4.ntr _ _ _ (of_decide_eq_false a1) (of_decide_eq_false Z))
 have hH:HoldsK a2 sz w b 0 d:=by
  intro t a6;rw[size_flatK,I]at a6;have ai:t / sz<q.length:=Nat.div_lt_of_lt_mul (by rw[Nat.mul_comm];exact a6);have ah:t % sz<sz:=Nat.mod_lt _ V;rw[get_flatK _ _ _ _ (by rw[I];exact a6),bi _ ai];have e:=q3 (t / sz) (t % sz) (by rw[length_map];exact ai) ah;rw[show t / sz*sz+t % sz=t by rw[Nat.mul_comm];exact Nat.div_add_mod t sz]at e;refine⟨?_,?_⟩
  .rw[Nat.zero_add,I1 g3,e];show some _=some (id _);congr 1;show gg _ _=((range sz).map (gg (t / sz)))[t % sz]!;rw[getElem!_pos _ _ (by simpa using ah)];simp
  .simp[World.frozen?,g3]
 have a9:b<w.heap.size:=(Array.getElem?_eq_some_iff.1 g3).1;have hC:CmpLays prog g cv a2 sz ad b 0 d.size w:=by
  intro m ae dk hs x y;generalize b8:sortWorldK a2 sz w b 0 m dk ae=R;have av:∀J o,b≠J->w.heap[J]? = some o->R.heap[J]? = some o:=(by intro J o ao e;have A:=(Array.getElem?_eq_some_iff.1 e).1;rw[<-b8];show ((w.heap.modify b _)++ae)[J]? = _;rw[Array.getElem?_append_left (by simpa using A),Array.getElem?_modify,if_neg ao];exact e);have a8:∀J o,σ J=some o->R.heap[J]? = some o:=λJ o S=>av J o (by rintro rfl;rw[g1]at S;cases S) (s.sto J o S);have ax:=b4 x.1.1 x.2.1 y.1.1 y.2.1;have hp:=b3 _ _ _ ax;have s1:St (λb=>R.heap[b]?) ι0 H0 (λ_=>none) R R:=⟨λ_ _ e=>e,(λ_ _ e=>by cases e),λ_=>rfl,(λ_ _ _ hl=>by cases hl),rfl,rfl,rfl,s.glo.mono a8,Nat.le_refl _⟩;have b5:∀z:Mm σ eA sz q,Conc (λb=>R.heap[b]?) ι0 H0 (eA z.1.1) (.agg (a2 z).toArray):=by
   intro z;obtain⟨cs,ay⟩:=b6 z.1.1;have M:(eA z.1.1).cells=cs:=(by rw[ay];rfl);rw[ay];refine .cc (.agg _ _ ?_ λi c v hc G=>?_)
   .rw[<-M,z.2.2.1];simp[hk z]
   .rw[<-M]at hc;exact (z.2.2.2.2 i c v hc (by simpa using G)).1.mono a8
  refine (hp.2 (λb=>R.heap[b]?) (λ_=>none) R R _ s1 ⟨by simp[bk,bl];omega,?_⟩).mono ?_
  .intro i a v ha G
   match i,ha,G with| 0,ha,G=>cases ha;rw[Array.getElem?_append_left ψ]at G;cases G;exact b5 x| 1,ha,G=>cases ha;rw[Array.getElem?_append_left ψ]at G;cases G;exact b5 y| n+2,ha,G=>rw[Array.getElem?_append_right ψ]at G;exact .cc (bh _ σ F W w ι cv (λb=>R.heap[b]?) s bj (λJ o S=>a8 J o S) (λJ o b0 S=>av J o (by rintro rfl;exact b0 _ hb) S) n a v (by simpa using ha) (by simpa using G))
  .rintro e w' ⟨v,σ',rfl,au,ba,hc⟩;refine⟨?_,?_⟩
   .cases hc with| cc h=>cases h;rfl
   .exact At8 (σ:=σ') (λb o S=>au b o S) ba
 have call:=AnyQ.slices_SortFunc L sz aE zE a2 hk h1 ad hO g cv b 0 A8 d w eg hC hH a9 (by rw[I];omega);rw[hf,I]at call;refine call.mono ?_;rintro e w' ⟨rfl,B,n,Y,be,bb,rfl⟩;obtain⟨p1,p2,p3⟩:=be;have O:B.size=q.length:=by rw[p1,I]
 have N:∀(a:Array (Mm σ eA sz q)),a.size=q.length->(a.extract 0 q.length).toList=a.toList:=λa ha=>by rw[<-ha];simp
 rw[N B O,N d I]at p3;have aq:d.toList.map (λp=>p.1.1)=q:=by
  apply ext_getElem
  .simp[I]
  .intro i bo bn;simp[d]
 have a7:(B.toList.map λp=>p.1.1).Perm q:=by have:=p3.map λp:Mm σ eA sz q=>p.1.1;rwa [aq]at this
 have hS:(B.toList.map λp=>p.1.1).Pairwise λx y=>¬cf y x<0:=by rw[pairwise_iff_getElem];intro i j hi hj bg;simp only[length_map,Array.length_toList]at hi hj;have:=bb i j (Nat.zero_le _) bg ω;rw[getElem!_pos B i hi,getElem!_pos B j hj]at this;have:=of_decide_eq_false this;simpa only[getElem_map,Array.getElem_toList] using this
 obtain⟨r,X⟩:∃r,B.toList.map (λp=>p.1.1)=r:=⟨_,rfl⟩;rw[X]at a7 hS;have ak:r.length=q.length:=a7.length_eq;have bm:(flatK a2 sz B).size=q.length*sz:=by rw[size_flatK,O]
 have b7:(Sort.putCells id 0 (flatK a2 sz B) D).size=A8*sz:=by unfold Sort.putCells;rw[Array.size_mapIdx];exact g4
 have aj:∀(i:Nat) (x:α),r[i]? = some x->i<B.size/\(B[i]!).1.1=x:=by intro i x hx;rw[<-X,getElem?_map,Option.map_eq_some_iff]at hx;obtain⟨p,hp,rfl⟩:=hx;have A:=(List.getElem?_eq_some_iff.1 hp).1;simp only[Array.length_toList]at A;refine⟨A,?_⟩;rw[getElem!_pos B i A];have:=(List.getElem?_eq_some_iff.1 hp).2;simp only[Array.getElem_toList]at this;rw[this]
 obtain⟨s',le⟩:=s.setRows 0 E sz _ (r.map eA) hh b A8 hb (by simp[ak]) (Sort.putCells id 0 (flatK a2 sz B) D) b7 (by
  refine⟨λi j=>(a2 B[i]!)[j]!,?_,?_,?_⟩
  .intro i x hx;rw[getElem?_map]at hx;obtain⟨z,hz,rfl⟩:=Option.map_eq_some_iff.1 hx;obtain⟨e1,e2⟩:=aj i z hz;rw[<-e2];exact (B[i]!).2.2.1
  .intro i x j c hx ab;rw[getElem?_map]at hx;obtain⟨z,hz,rfl⟩:=Option.map_eq_some_iff.1 hx;obtain⟨e1,e2⟩:=aj i z hz;rw[<-e2]at ab;have A:=(List.getElem?_eq_some_iff.1 ab).1;rw[(B[i]!).2.2.1,<-(B[i]!).2.2.2.1]at A;have hg:(B[i]!).1.2[j]? = some ((a2 B[i]!)[j]!):=(by rw[getElem?_eq_getElem A,getElem!_pos (a2 B[i]!) j A]);exact (B[i]!).2.2.2.2 j c _ ab hg
  .intro i j hi hj;rw[length_map,ak]at hi;have A:i*sz+j<q.length*sz:=(by have:=Nat.mul_le_mul_right sz (show i+1<=q.length from hi);rw[Nat.add_mul,Nat.one_mul]at this;omega);have hD:i*sz+j<D.size:=(by rw[g4];exact Nat.lt_of_lt_of_le A (Nat.mul_le_mul_right sz g5));unfold Sort.putCells;rw[Array.getElem?_mapIdx,Array.getElem?_eq_getElem hD];simp only[Option.map_some,Nat.zero_le,true_and,Nat.zero_add,bm,A,if_true,Nat.sub_zero];congr 1;show id ((flatK a2 sz B)[i*sz+j]!)=_;rw[get_flatK _ _ _ _ (by rw[O];exact A)];have e1:(i*sz+j) / sz=i:=(by rw[Nat.mul_comm,Nat.mul_add_div V,Nat.div_eq_of_lt hj,Nat.add_zero]);have e2:(i*sz+j) % sz=j:=(by rw[Nat.mul_comm,Nat.mul_add_mod,Nat.mod_eq_of_lt hj]);rw[e1,e2];rfl);have eH:Aj (hp (.rows E sz (q.map eA)::os)) 0 (.rows E sz (r.map eA))=hp (.rows E sz (r.map eA)::os):=by
  funext i
  match i with| 0=>rfl| i+1=>rfl
 rw[eH]at le s';have eW:sortWorldK a2 sz w b 0 n B Y=Sort.grow (Sort.ahead (w.setRow b (Sort.putCells id 0 (flatK a2 sz B) D)) n) Y:=by unfold sortWorldK putRowK;rw[At6 id (Sort.ahead w n) b (flatK a2 sz B) D E g3];rfl
 rw[eW];exact⟨_,_,_,σ,ι,⟨r,⟨cf,a4,b4,a7,hS⟩,rfl,rfl⟩,rfl,le,s'.growG n Y,.tup _ _ rfl (λi c v h1 _=>by cases h1)⟩
theorem Aj0 (L:SlLaysF0.n6 prog ρ) (d:ρ.f 6=f) (b:Rf prog f) (D:∀w,(isAgg (ρ.t 24)).run prog w = .ok true w) (A:∀w,(Go.sizeOf (ρ.t 24)).run prog w = .ok sz w) (B:∀args w,(callFunc g args).run prog w = .ok (.enter g args) w) (k:∀x y n,cmp x y=some n->A4 prog g [eA x,eA y] (Aa .i64 n)) (q:∀x,∃cs,eA x = .agg cs) {j:List α} (h:∃o,Ku cmp j o) (z:j≠[]) : N4 prog f [.arr 0 j.length 0 j.length,.fn g []] [.rows E sz (j.map eA)] (λa s=>∃o,Ku cmp j o/\a = .tup []/\s = [.rows E sz (o.map eA)]) := Ajz (cas:=[]) (os:=[]) L d b D A B k (λ_ _ _ _ _ _ _ _ _ _ _ _ i c u h=>by simp at h) rfl q h z
theorem Aj1 {cs:List AV} {b:Nat} {C:Array Value} {f:Nat×Nat} (k:σ b=some (.cells C E f)) (q:C.size=cs.length) (h:∀(i:Nat) (c:AV) (v:Value),cs[i]? = some c->C[i]? = some v->CC σ c v/\Dy v=true):CC σ (.ref cs) (.pointer (some ⟨b,0,none⟩)):=by
 have s:∀j c,cs[j]? = some c->CC σ c C[j]!/\Dy C[j]! = true:=λj c d=>by have u:j<C.size:=(by rw[q];exact (List.getElem?_eq_some_iff.1 d).1);exact h j c _ d (by rw[getElem!_pos C j u];exact Array.getElem?_eq_getElem u)
 exact .ref cs b 0 C E f (λj=>C[j]!) k (λj c d=>(s j c d).1) (λj c d=>(s j c d).2) λj u=>by rw[Nat.zero_add,getElem!_pos C j ω];exact Array.getElem?_eq_getElem _
theorem At9 {J I:TypeId} {xs:List AV} {B A z y x:AV} {G D:List (AV×AV)} (X:([B,A,z,y,x]:List AV).all AV.cl1=true) {F:Aw} {w:World} {vs:Array Value} {L:Aw} (s:St σ ι (hp [.rows E sz xs,.cells J [.loc 2 0],.cells I [B,A,z,y,x,.mp 3,.mp 4],.map G,.map D]) F W w) (hc:∀(i:Nat) (c:AV) (u:Value),[AV.loc 1 0][i]? = some c->vs[i]? = some u->Conc σ ι (hp [.rows E sz xs,.cells J [.loc 2 0],.cells I [B,A,z,y,x,.mp 3,.mp 4],.map G,.map D]) c u) (le:σ.le L) (hk:∀b o,(∀t,ι 0≠.blk b t)->w.heap[b]? = some o->L b=some o) (i:Nat) (c:AV) (u:Value) (hi:[AV.ref [.ref [B,A,z,y,x,.fm G,.fm D]]][i]? = some c) (hu:vs[i]? = some u):CC L c u:=by
 match i,hi with
 | i+1,hi=>simp at hi
 | 0,hi=>
  cases hi;have hb:∀k b,k=1\/k=2\/k=3\/k=4->ι k = .box b->∀o,w.heap[b]? = some o->L b=some o:=by
   intro k b N e o ho;refine hk b o (λt e0=>?_) ho;have:=s.inj 0 k b rfl (by rcases N with rfl|rfl|rfl|rfl <;> rfl) (by rw[e0];rfl) (by rw[e];rfl)
   omega
  have f:∀k es (v:Value),k=3\/k=4->hp [.rows E sz xs,.cells J [.loc 2 0],.cells I [B,A,z,y,x,.mp 3,.mp 4],.map G,.map D] k = .map es->Conc σ ι (hp [.rows E sz xs,.cells J [.loc 2 0],.cells I [B,A,z,y,x,.mp 3,.mp 4],.map G,.map D]) (.mp k) v->CC L (.fm es) v/\Dy v=true:=(by intro k es v N hH j;obtain⟨b,q,rfl⟩:=j.mp_inv;have o:=s.obj k;unfold Bw at o;rw[hH]at o;obtain⟨b',M,t,R,_,_,h3,Y⟩:=o;rw[R]at q;cases q;exact⟨.fm es _ M t (hb k _ ω R _ h3) Y.1 (λi p e a1 a2=>(Y.2 i p e a1 a2).1.mono le) λi p e a1 a2=>(Y.2 i p e a1 a2).2.mono le,rfl⟩);obtain⟨ba,O,rfl⟩:=(hc 0 (.loc 1 0) u rfl hu).loc_inv;have V:=s.obj 1;unfold Bw at V;rw[show hp [.rows E sz xs,.cells J [.loc 2 0],.cells I [B,A,z,y,x,.mp 3,.mp 4],.map G,.map D] 1 = .cells J [.loc 2 0] from rfl]at V;obtain⟨b1,C1,R,_,_,h1,l1,c1⟩:=V;rw[R]at O;cases O;refine Aj1 (hb 1 _ (.inl rfl) R _ h1) l1 λi c v hi j=>?_
  match i,hi with
  | i+1,hi=>simp at hi
  | 0,hi=>
   cases hi;obtain⟨bb,q,rfl⟩:=(c1 0 (.loc 2 0) v rfl j).loc_inv;have U:=s.obj 2;unfold Bw at U;rw[show hp [.rows E sz xs,.cells J [.loc 2 0],.cells I [B,A,z,y,x,.mp 3,.mp 4],.map G,.map D] 2 = .cells I [B,A,z,y,x,.mp 3,.mp 4] from rfl]at U;obtain⟨b2,C2,Z,_,_,h2,l2,c2⟩:=U;rw[Z]at q;cases q;refine⟨Aj1 (hb 2 _ (.inr (.inl rfl)) Z _ h2) l2 λi c v hi j=>?_,rfl⟩;have S:∀d∈([B,A,z,y,x]:List AV),∀v,Conc σ ι (hp [.rows E sz xs,.cells J [.loc 2 0],.cells I [B,A,z,y,x,.mp 3,.mp 4],.map G,.map D]) d v->CC L d v/\Dy v=true:=λd hd v h=>by obtain⟨a1,a2⟩:=h.cc_of (all_eq_true.1 X d hd);exact⟨a1.mono le,a2⟩
   match i,hi with| 0,hi=>cases hi;exact S _ ψ _ (c2 0 _ v rfl j)| 1,hi=>cases hi;exact S _ ψ _ (c2 1 _ v rfl j)| 2,hi=>cases hi;exact S _ ψ _ (c2 2 _ v rfl j)| 3,hi=>cases hi;exact S _ ψ _ (c2 3 _ v rfl j)| 4,hi=>cases hi;exact S _ ψ _ (c2 4 _ v rfl j)| 5,hi=>cases hi;exact f 3 G v (.inl rfl) rfl (c2 5 _ v rfl j)| 6,hi=>cases hi;exact f 4 D v (.inr rfl) rfl (c2 6 _ v rfl j)| i+7,hi=>simp at hi
theorem M6.only {o:List α} (h:M6 cmp l r) (h':Ku cmp l o):o=r:=by
 obtain⟨cf,d,k,b,q⟩:=h;obtain⟨A,D,f,hp,s⟩:=h';have e:∀x∈l,∀y∈l,A x y=cf x y:=λx hx y hy=>Option.some.inj ((f x hx y hy).symm.trans (k x hx y hy));have u:o.Pairwise λx y=>cf x y<0\/cf y x<0:=((hp.trans b.symm).pairwise_iff λ{x y} h=>h.symm).2 (q.imp λh=>.inl h);have z:o.Pairwise λx y=>cf x y<0:=by
  rw[pairwise_iff_getElem]at u s ⊢;intro i j hi B c;rcases u i j hi B c with h|h
  .exact h
  .have:=s i j hi B c;rw[e _ (hp.subset (getElem_mem B)) _ (hp.subset (getElem_mem hi))]at this;exact (this h).elim
 exact Perm.eq_of_pairwise (le:=λx y=>cf x y<0) (λx y _ _ h1 h2=>(d.irr x (d.trs _ _ _ h1 h2)).elim) z q (hp.trans b.symm)
theorem M6.toU (h:M6 cmp l r):Ku cmp l r:=by obtain⟨cf,d,c,b,f⟩:=h;exact⟨cf,d,c,b,f.imp λ{x y} h h2=>d.irr x (d.trs _ _ _ h h2)⟩
def Aua:Ren:={f:=λx=>match x with|6=>20|15=>66|14=>65|28=>120|29=>121|20=>112|21=>113|22=>114|23=>115|24=>116|25=>117|26=>118|27=>119|46=>171|47=>172|48=>173|49=>174|50=>175|57=>229|n=>n,t:=λx=>match x with|22=>35|24=>43|25=>70|3=>3|39=>127|0=>0|53=>144|55=>143|4=>4|46=>168|45=>167|50=>172|5=>5|9=>9|66=>231|70=>152|76=>299|77=>300|n=>n,g:=λn=>n}
theorem Aub:SlLaysF0.n6 prog Aua:=by
 constructor
 case f6=>exact Exists.intro "slices.SortFunc[[]amortcost/api.Mono,amortcost/api.Mono]" ⟨κ,κ⟩
 case f14=>exact Exists.intro "slices.pdqsortCmpFunc[amortcost/api.Mono]" ⟨κ,κ⟩
 case f20=>exact Exists.intro "slices.insertionSortCmpFunc[amortcost/api.Mono]" ⟨κ,κ⟩
 case f21=>exact Exists.intro "slices.heapSortCmpFunc[amortcost/api.Mono]" ⟨κ,κ⟩
 case f22=>exact Exists.intro "slices.breakPatternsCmpFunc[amortcost/api.Mono]" ⟨κ,κ⟩
 case f23=>exact Exists.intro "slices.choosePivotCmpFunc[amortcost/api.Mono]" ⟨κ,κ⟩
 case f24=>exact Exists.intro "slices.reverseRangeCmpFunc[amortcost/api.Mono]" ⟨κ,κ⟩
 case f25=>exact Exists.intro "slices.partialInsertionSortCmpFunc[amortcost/api.Mono]" ⟨κ,κ⟩
 case f26=>exact Exists.intro "slices.partitionEqualCmpFunc[amortcost/api.Mono]" ⟨κ,κ⟩
 case f27=>exact Exists.intro "slices.partitionCmpFunc[amortcost/api.Mono]" ⟨κ,κ⟩
 case f46=>exact Exists.intro "slices.siftDownCmpFunc[amortcost/api.Mono]" ⟨κ,κ⟩
 case f49=>exact Exists.intro "slices.medianAdjacentCmpFunc[amortcost/api.Mono]" ⟨κ,κ⟩
 case f50=>exact Exists.intro "slices.medianCmpFunc[amortcost/api.Mono]" ⟨κ,κ⟩
 case f57=>exact Exists.intro "slices.order2CmpFunc[amortcost/api.Mono]" ⟨κ,κ⟩
 all_goals first|kernel_rfl | (intro w;kernel_rfl)
def Auc:Ren:={f:=λx=>match x with|6=>60|15=>66|14=>108|28=>120|29=>121|20=>161|21=>162|22=>163|23=>164|24=>165|25=>166|26=>167|27=>168|46=>226|47=>172|48=>173|49=>227|50=>228|57=>264|n=>n,t:=λx=>match x with|22=>55|24=>60|25=>121|3=>3|39=>127|0=>0|53=>144|55=>143|4=>4|46=>168|45=>167|50=>172|5=>5|9=>9|66=>231|70=>152|76=>299|77=>300|n=>n,g:=λn=>n}
theorem Aud:SlLaysF0.n6 prog Auc:=by
 constructor
 case f6=>exact Exists.intro "slices.SortFunc[[]amortcost/api.Index,amortcost/api.Index]" ⟨κ,κ⟩
 case f14=>exact Exists.intro "slices.pdqsortCmpFunc[amortcost/api.Index]" ⟨κ,κ⟩
 case f20=>exact Exists.intro "slices.insertionSortCmpFunc[amortcost/api.Index]" ⟨κ,κ⟩
 case f21=>exact Exists.intro "slices.heapSortCmpFunc[amortcost/api.Index]" ⟨κ,κ⟩
 case f22=>exact Exists.intro "slices.breakPatternsCmpFunc[amortcost/api.Index]" ⟨κ,κ⟩
 case f23=>exact Exists.intro "slices.choosePivotCmpFunc[amortcost/api.Index]" ⟨κ,κ⟩
 case f24=>exact Exists.intro "slices.reverseRangeCmpFunc[amortcost/api.Index]" ⟨κ,κ⟩
 case f25=>exact Exists.intro "slices.partialInsertionSortCmpFunc[amortcost/api.Index]" ⟨κ,κ⟩
 case f26=>exact Exists.intro "slices.partitionEqualCmpFunc[amortcost/api.Index]" ⟨κ,κ⟩
 case f27=>exact Exists.intro "slices.partitionCmpFunc[amortcost/api.Index]" ⟨κ,κ⟩
 case f46=>exact Exists.intro "slices.siftDownCmpFunc[amortcost/api.Index]" ⟨κ,κ⟩
 case f49=>exact Exists.intro "slices.medianAdjacentCmpFunc[amortcost/api.Index]" ⟨κ,κ⟩
 case f50=>exact Exists.intro "slices.medianCmpFunc[amortcost/api.Index]" ⟨κ,κ⟩
 case f57=>exact Exists.intro "slices.order2CmpFunc[amortcost/api.Index]" ⟨κ,κ⟩
 all_goals first|kernel_rfl | (intro w;kernel_rfl)
theorem Aue (k:∀args w,(callFunc g args).run prog w = .ok (.enter g args) w) (c:∀x y n,cmp x y=some n->A4 prog g [eA x,eA y] (Aa .i64 n)) (f:∀x,∃cs,eA x = .agg cs) (h:∃o,Ku cmp b o) (j:b≠[]) : N4 prog 60 [.arr 0 b.length 0 b.length,.fn g []] [.rows 60 2 (b.map eA)] (λa i=>∃o,Ku cmp b o/\a = .tup []/\i = [.rows 60 2 (o.map eA)]) := Aj0 Aud rfl ⟨_,func60,κ,κ⟩ (by intro w;kernel_rfl) (by intro w;kernel_rfl) k c f h j
theorem Auf (j:∀args w,(callFunc g args).run prog w = .ok (.enter g args) w) (b:∀x y n,cmp x y=some n->A4 prog g [eA x,eA y] (Aa .i64 n)) (c:∀x,∃cs,eA x = .agg cs) {f:List α} (h:L9 cmp f=some r) (i:f≠[]) : Bt prog 60 [.arr 0 f.length 0 f.length,.fn g []] [.rows 60 2 (f.map eA)] (.tup []) [.rows 60 2 (r.map eA)] := ((Aue j b c ⟨r,(Rw h).toU⟩ i).one λ_ _ ⟨o,d,k,q⟩=>⟨k,by rw[q,(Rw h).only d]⟩)
def Aug:Ren:={f:=λx=>match x with|6=>199|15=>66|14=>250|28=>120|29=>121|20=>291|21=>292|22=>293|23=>294|24=>295|25=>296|26=>297|27=>298|46=>334|47=>172|48=>173|49=>335|50=>336|57=>350|n=>n,t:=λx=>match x with|22=>47|24=>89|25=>275|3=>3|39=>127|0=>0|53=>144|55=>143|4=>4|46=>168|45=>167|50=>172|5=>5|9=>9|66=>231|70=>152|76=>299|77=>300|n=>n,g:=λn=>n}
theorem Auh:SlLaysF0.n6 prog Aug:=by
 constructor
 case f6=>exact Exists.intro "slices.SortFunc[[]amortcost/api.Term,amortcost/api.Term]" ⟨κ,κ⟩
 case f14=>exact Exists.intro "slices.pdqsortCmpFunc[amortcost/api.Term]" ⟨κ,κ⟩
 case f20=>exact Exists.intro "slices.insertionSortCmpFunc[amortcost/api.Term]" ⟨κ,κ⟩
 case f21=>exact Exists.intro "slices.heapSortCmpFunc[amortcost/api.Term]" ⟨κ,κ⟩
 case f22=>exact Exists.intro "slices.breakPatternsCmpFunc[amortcost/api.Term]" ⟨κ,κ⟩
 case f23=>exact Exists.intro "slices.choosePivotCmpFunc[amortcost/api.Term]" ⟨κ,κ⟩
 case f24=>exact Exists.intro "slices.reverseRangeCmpFunc[amortcost/api.Term]" ⟨κ,κ⟩
 case f25=>exact Exists.intro "slices.partialInsertionSortCmpFunc[amortcost/api.Term]" ⟨κ,κ⟩
 case f26=>exact Exists.intro "slices.partitionEqualCmpFunc[amortcost/api.Term]" ⟨κ,κ⟩
 case f27=>exact Exists.intro "slices.partitionCmpFunc[amortcost/api.Term]" ⟨κ,κ⟩
 case f46=>exact Exists.intro "slices.siftDownCmpFunc[amortcost/api.Term]" ⟨κ,κ⟩
 case f49=>exact Exists.intro "slices.medianAdjacentCmpFunc[amortcost/api.Term]" ⟨κ,κ⟩
 case f50=>exact Exists.intro "slices.medianCmpFunc[amortcost/api.Term]" ⟨κ,κ⟩
 case f57=>exact Exists.intro "slices.order2CmpFunc[amortcost/api.Term]" ⟨κ,κ⟩
 all_goals first|kernel_rfl | (intro w;kernel_rfl)
theorem Aui (k:∀args w,(callFunc g args).run prog w = .ok (.enter g args) w) (c:∀x y n,cmp x y=some n->A4 prog g [eA x,eA y] (Aa .i64 n)) (f:∀x,∃cs,eA x = .agg cs) (h:∃o,Ku cmp b o) (j:b≠[]) : N4 prog 199 [.arr 0 b.length 0 b.length,.fn g []] [.rows 89 5 (b.map eA)] (λa i=>∃o,Ku cmp b o/\a = .tup []/\i = [.rows 89 5 (o.map eA)]) := Aj0 Auh rfl ⟨_,func199,κ,κ⟩ (by intro w;kernel_rfl) (by intro w;kernel_rfl) k c f h j
theorem Auj (j:∀args w,(callFunc g args).run prog w = .ok (.enter g args) w) (b:∀x y n,cmp x y=some n->A4 prog g [eA x,eA y] (Aa .i64 n)) (c:∀x,∃cs,eA x = .agg cs) {f:List α} (h:L9 cmp f=some r) (i:f≠[]) : Bt prog 199 [.arr 0 f.length 0 f.length,.fn g []] [.rows 89 5 (f.map eA)] (.tup []) [.rows 89 5 (r.map eA)] := ((Aui j b c ⟨r,(Rw h).toU⟩ i).one λ_ _ ⟨o,d,k,q⟩=>⟨k,by rw[q,(Rw h).only d]⟩)
theorem Auk {G:TypeId} {j i f c b:AV} {z u:List (AV×AV)} (I:∀args w,(callFunc g args).run prog w = .ok (.enter g args) w) (k:∀x y n,cmp x y=some n->A4 prog g [eA x,eA y,.ref [.ref [j,i,f,c,b,.fm z,.fm u]]] (Aa .i64 n)) (D:([j,i,f,c,b]:List AV).all AV.cl1=true) (q:∀x,∃cs,eA x = .agg cs) {A:List α} (h:L9 cmp A=some r) (B:A≠[]) : Bt prog 20 [.arr 0 A.length 0 A.length,.fn g [.loc 1 0]] [.rows 43 2 (A.map eA),.cells G [.loc 2 0],.cells E [j,i,f,c,b,.mp 3,.mp 4],.map z,.map u] (.tup []) [.rows 43 2 (r.map eA),.cells G [.loc 2 0],.cells E [j,i,f,c,b,.mp 3,.mp 4],.map z,.map u] := ((Ajz (caps:=[.loc 1 0]) (cas:=[.ref [.ref [j,i,f,c,b,.fm z,.fm u]]]) (os:=[.cells G [.loc 2 0],.cells E [j,i,f,c,b,.mp 3,.mp 4],.map z,.map u]) Aub rfl ⟨_,func20,κ,κ⟩ (by intro w;kernel_rfl) (by intro w;kernel_rfl) I k (λ_ _ _ _ _ _ _ _ s d le L=>At9 D s d le L) rfl q ⟨r,(Rw h).toU⟩ B).one λ_ _ ⟨o,M,N,O⟩=>⟨N,by rw[O,(Rw h).only M]⟩)
end Go.Ab
namespace Go.Ab
open Go Go.Proofs Go.Shelf Go.Proofs.Tryz
set_option maxRecDepth 100000
set_option linter.unusedVariables false
variable {n:Int} {α:Type} {r:List α} {eA:α->AV}
theorem Xn {σ:Aw} {ι:Bq} {H:Hp} {u v:Value} (h:Conc σ ι H (.val u) v):v=u:=by cases h with| cc h=>cases h;rfl
theorem Aea {ρ:Ren} {E:TypeId} {sz f:Nat} (L:Lays8.n4 prog ρ) (hf:ρ.f 4=f) (q:Rf prog f) (y:TypeInfo) (z:Value) (J:prog.info? (ρ.t 25)=some y) (I:y.zero=some z) (X:ρ.t 25=E) (U:y.size=sz) (G:z.cells.size=sz) (A:0<sz) (M:y.bytes<=1000) (h:Mb n=some r):Bt prog f [.val (.slice none 0 0),Aa .i64 n] [] (.arr 0 r.length 0 r.length) [.rows E sz (r.map eA)]:=by
 have d:r = []/\0<=n/\n<=1000000:=by
  unfold Mb at h;by_cases h1:0<=n
  .by_cases h2:n<=1000000
   .rw[decide_eq_true h1,decide_eq_true h2]at h;have h:some ([]:List α)=some r:=h;cases h;exact⟨rfl,h1,h2⟩
   .rw[decide_eq_false h2,Bool.and_false]at h;cases h
  .rw[decide_eq_false h1,Bool.false_and]at h;cases h
 obtain⟨rfl,V,n1⟩:=d;obtain⟨m,rfl⟩:∃m:Nat,n=m:=⟨n.toNat,ω⟩;refine⟨q,λσ F W w ι vs s B=>?_⟩;obtain⟨v,u,rfl,S,hu⟩:=Ad9 B;obtain rfl:=Xn S;obtain rfl:=Xn hu;have O:hp [] 0 = .none:=rfl;have R:Aj (hp []) 0 (.rows E sz [])=hp [.rows E sz []]:=by
  funext i
  match i with| 0=>rfl| i+1=>rfl
 by_cases h0:m=0
 .subst h0;have call:=Any8.slices_Grow_room L none 0 0 0 w (Nat.le_refl _) δ δ δ;rw[hf]at call;refine call.mono ?_;rintro e w' ⟨rfl,rfl⟩;obtain⟨s',le⟩:=s.newNil 0 O E sz A;rw[R]at s' le;refine⟨_,σ,_,rfl,le,s',.arr 0 0 0 0 _ (by intro e;cases e) (λZ D xs e=>?_) rfl⟩;cases e;refine⟨Nat.le_refl _,λ_=>?_⟩;unfold Gg;rw[Ba];exact⟨rfl,rfl,rfl⟩
 .have hb:(0+m)*y.bytes<=140737488355328:=(by have:=Nat.mul_le_mul (show 0+m<=1000000 by omega) M;omega);have call:=Any8.slices_Grow_grow L y z J I ω none 0 0 m [] w (Nat.le_refl _) ω hb ω ψ (λ_=>rfl) (λa h=>by cases h);rw[hf,X]at call;refine call.mono ?_;rintro e w' ⟨rfl,rfl⟩;have a2:=Xe w (0+m) 0 E;generalize grownCap w (0+m) 0 E=a1 at a2;have b:∀k,(Builtin.zeroCells z.cells k).size=k*sz:=(by intro k;simp[Builtin.zeroCells,G]);generalize Y:(([]:List Value).toArray++Builtin.zeroCells z.cells (0+m-0)++Builtin.zeroCells z.cells (a1-(0+m)))=C;have N:C.size=a1*sz:=(by rw[<-Y,Array.size_append,Array.size_append,b,b];simp only[size_toArray,length_nil,Nat.zero_add,Nat.sub_zero,<-Nat.add_mul];congr 1;omega);obtain⟨s',le⟩:=(s.drew (w.drawn+1)).newRows 0 E sz [] a1 C (.inl O) A ψ ψ N ⟨λ_ _=>.bool false,(by intro i x h;simp at h),(by intro i x j c h;simp at h),(by intro i j h;simp at h)⟩;rw[R]at s' le;refine⟨_,σ,_,rfl,le,s',.arr 0 0 0 0 _ (by intro e;cases e) (λZ D xs e=>?_) rfl⟩;cases e;refine⟨Nat.le_refl _,λ_=>?_⟩;unfold Gg;rw[Ba];exact⟨Nat.zero_le _,ψ⟩
def Aul:Ren:={f:=λx=>match x with|4=>169|n=>n,t:=λx=>match x with|22=>40|25=>62|3=>3|4=>4|9=>9|20=>20|0=>0|n=>n,g:=λn=>n}
theorem Aum:Lays8.n4 prog Aul:=by
 constructor
 case f4=>exact Exists.intro "slices.Grow[[]amortcost/api.Factor,amortcost/api.Factor]" ⟨κ,κ⟩
 all_goals first|kernel_rfl | (intro w;kernel_rfl)
theorem Aun (h:Mb n=some r):Bt prog 169 [.val (.slice none 0 0),Aa .i64 n] [] (.arr 0 r.length 0 r.length) [.rows 62 3 (r.map eA)] := Aea Aum rfl ⟨_,func169,κ,κ⟩ t62 (t62.zero.getD .nilFunc) κ κ rfl κ κ δ (of_decide_eq_true κ) h
def Auo:Ren:={f:=λx=>match x with|4=>170|n=>n,t:=λx=>match x with|22=>41|25=>65|3=>3|4=>4|9=>9|20=>20|0=>0|n=>n,g:=λn=>n}
theorem Aup:Lays8.n4 prog Auo:=by
 constructor
 case f4=>exact Exists.intro "slices.Grow[[]amortcost/api.Atom,amortcost/api.Atom]" ⟨κ,κ⟩
 all_goals first|kernel_rfl | (intro w;kernel_rfl)
theorem Auq (h:Mb n=some r):Bt prog 170 [.val (.slice none 0 0),Aa .i64 n] [] (.arr 0 r.length 0 r.length) [.rows 65 3 (r.map eA)] := Aea Aup rfl ⟨_,func170,κ,κ⟩ t65 (t65.zero.getD .nilFunc) κ κ rfl κ κ δ (of_decide_eq_true κ) h
def Aur:Ren:={f:=λx=>match x with|4=>225|n=>n,t:=λx=>match x with|22=>55|25=>60|3=>3|4=>4|9=>9|20=>20|0=>0|n=>n,g:=λn=>n}
theorem Aus:Lays8.n4 prog Aur:=by
 constructor
 case f4=>exact Exists.intro "slices.Grow[[]amortcost/api.Index,amortcost/api.Index]" ⟨κ,κ⟩
 all_goals first|kernel_rfl | (intro w;kernel_rfl)
theorem Aut (h:Mb n=some r):Bt prog 225 [.val (.slice none 0 0),Aa .i64 n] [] (.arr 0 r.length 0 r.length) [.rows 60 2 (r.map eA)] := Aea Aus rfl ⟨_,func225,κ,κ⟩ t60 (t60.zero.getD .nilFunc) κ κ rfl κ κ δ (of_decide_eq_true κ) h
end Go.Ab
