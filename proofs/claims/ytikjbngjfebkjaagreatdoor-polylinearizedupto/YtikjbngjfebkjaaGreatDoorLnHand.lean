/- Contracts of the library. -/
import Derived.Test.YtikjbngjfebkjaaGreatDoorLnTy
import Derived.Test.YtikjbngjfebkjaaGreatDoorLnHandB
import Derived.Shelf.Strconv.Itoa4
import Derived.KernelRfl
import Derived.Shelf.Sort.Plain
import Derived.Shelf.SlSortCmp.WholeK
import Derived.Shelf.Spec.SlicesGrow
open List
namespace Go.Ab
open Go Go.Proofs Go.Shelf Go.Proofs.Tryz
set_option maxRecDepth 100000
variable {F σ:A8} {p x:AV} {vs:Array Value} {r:ByteArray} {ι:Ch} {H:Hp} {a0:Int} {l:List Int} {W w:World}
def Arc:Ren:={f:=λx=>match x with|171=>182|243=>252|246=>301|283=>334|284=>335|285=>336|286=>337|129=>203|317=>351|318=>352|319=>353|320=>354|337=>359|338=>360|173=>254|n=>n,t:=λx=>match x with|3=>3|9=>9|2=>2|4=>4|171=>405|0=>0|53=>91|37=>248|5=>5|173=>407|212=>421|51=>92|20=>20|213=>422|46=>203|232=>427|233=>428|n=>n,g:=λx=>match x with|17=>0|18=>1|19=>2|n=>n}
theorem Ard:LaysM.n171 prog Arc:=by constructor;constructor;all_goals first|kernel_rfl | (intro w;kernel_rfl)
theorem St.grown (s:St σ ι0 H0 F W w) (k:Nat) (os:Array Obj):St σ ι0 H0 F W (Sort.grow (w.drewN k) os):=by
 have hk:∀(b:Nat) (o:Obj),w.heap[b]? = some o->(Sort.grow (w.drewN k) os).heap[b]? = some o:=by intro b o h;have c:=(Array.getElem?_eq_some_iff.1 h).1;show (w.heap++os)[b]? = _;rw[Array.getElem?_append_left c];exact h
 exact⟨λb o h=>hk b o (s.sto b o h),λb o h=>⟨hk b o (s.fra b o h).1,(s.fra b o h).2⟩,λ_=>rfl,(λ_ _ _ f=>by cases f),s.os,s.tape,s.output,s.glo,Nat.le_trans s.drw (Nat.le_add_right _ _)⟩
theorem Are (s:St σ ι H F W w):Lib.TabIs prog w "internal/strconv.uint64pow10" .u64 Lib.pow10Tab:=by obtain⟨E,d,e⟩:=s.glo;have h:=s.sto _ _ e;have g:prog.globalNamed "internal/strconv.uint64pow10" = some 0:=Ard.m17;unfold Lib.TabIs World.var?;rw[g];simp only[Option.bind_some,h]
theorem Vd (h:L8 σ ι H [x] vs):∃v,vs = #[v]/\Conc σ ι H x v:=by
 obtain⟨d,j⟩:=h;have d:vs.size=1:=d;refine⟨vs[0],?_,j 0 x _ rfl (by simp[d])⟩;apply Array.ext
 .simp[d]
 .intro i hi b;have:i=0:=ω;subst this;rfl
theorem A3f (h:Qh a0=some r):A6 prog 182 [O .i64 a0] (G0 r):=by
 unfold Qh at h;split at h
 .rename_i d;cases h;refine⟨⟨_,func182,κ,κ⟩,λσ F W w vs s b=>?_⟩;obtain⟨v,rfl,hv⟩:=Vd b;have hv:=hv.val_inv;subst hv;have:=Any.strconv_Itoa Ard a0 d.1 d.2 w (Are s);refine this.mono ?_;rintro e j ⟨rfl,k,os,rfl⟩;exact⟨_,σ,rfl,A8.le_refl σ,s.grown k os,.of_val _⟩
 .cases h
theorem A3g:LaysM.n173 prog Arc:=by constructor;constructor;all_goals first|kernel_rfl | (intro w;kernel_rfl)
theorem Alg {y:AV} (h:L8 σ ι H [x,y] vs):∃v u,vs = #[v,u]/\Conc σ ι H x v/\Conc σ ι H y u:=by
 obtain⟨d,j⟩:=h;have d:vs.size=2:=d;refine⟨vs[0],vs[1],?_,j 0 x _ rfl (by simp[d]),j 1 y _ rfl (by simp[d])⟩;apply Array.ext
 .simp[d]
 .intro i hi b;rcases (ω:i=0\/i=1) with h|h
  .subst h;rfl
  .subst h;rfl
theorem A3h {a1:Int} (h:Ae3 a0 a1=some r):A6 prog 254 [O .i64 a0,O .i64 a1] (G0 r):=by
 unfold Ae3 at h;cases d:a1==10 with
 | false=>rw[d]at h;cases h
 | true=>
  rw[d]at h;have d:=eq_of_beq d;subst d;have h:Qh a0=some r:=h;unfold Qh at h;split at h
  .rename_i q;cases h;refine⟨⟨_,func254,κ,κ⟩,λσ F W w vs s b=>?_⟩;obtain⟨v,u,rfl,hv,j⟩:=Alg b;have hv:=hv.val_inv;have j:=j.val_inv;subst hv;subst j;have:=Any.strconv_FormatInt_10 A3g a0 q.1 q.2 w (Are s);refine this.mono ?_;rintro e y ⟨rfl,k,os,rfl⟩;exact⟨_,σ,rfl,A8.le_refl σ,s.grown k os,.of_val _⟩
  .cases h
theorem Ab1 (o:Bo) (os:List Bo):hp (o::os) 0=o:=rfl
theorem A3i (x:AV) (rest:List Bo):Bp prog 236 [.loc 0 0] (.cells 250 [.loc 0 0,x]::rest) (.tup []) (.cells 250 [.loc 0 0,x]::rest):=by
 refine⟨⟨_,func236,κ,κ⟩,λσ F W w ι vs s f=>?_⟩;obtain⟨v,rfl,hv⟩:=Vd f;obtain⟨b,A,hv⟩:=hv.loc_inv;subst hv;have k:=s.obj 0;unfold C8 at k;rw[Ab1]at k;obtain⟨y,C,q,_,_,B,d,u⟩:=k;rw[A]at q;cases q;have d:C.size=2:=d;have g:C[0]? = some C[0]:=by simp[d]
 have l:=u 0 (.loc 0 0) C[0] rfl g;obtain⟨I,h,j⟩:=l.loc_inv;rw[A]at h;cases h;have cell:w.cell? ⟨b,0,none⟩=some (.pointer (some ⟨b,0,none⟩)):=by rw[K8 B,g,j]
 refine (Tryz.check_used b w cell).mono ?_;rintro e L ⟨rfl,rfl⟩;exact⟨_,σ,ι,rfl,Le.refl _ _ _,s,.tup _ _ rfl (λi c v D _=>by cases D)⟩
theorem A3j (x:AV) (rest:List Bo):Bp prog 236 [.loc 0 0] (.cells 250 [.val (.pointer none),x]::rest) (.tup []) (.cells 250 [.loc 0 0,x]::rest):=by
 refine⟨⟨_,func236,κ,κ⟩,λσ F W w ι vs s h=>?_⟩;obtain⟨v,rfl,hv⟩:=Vd h;obtain⟨b,L,hv⟩:=hv.loc_inv;subst hv;have l:=s.obj 0;unfold C8 at l;rw[Ab1]at l;obtain⟨A,C,y,_,_,D,B,u⟩:=l;rw[L]at y;cases y;have B:C.size=2:=B;have j:C[0]? = some C[0]:=by simp[B]
 have k:=(u 0 (.val (.pointer none)) C[0] rfl j).val_inv;have cell:w.cell? ⟨b,0,none⟩=some (.pointer none):=by rw[K8 D,j,k]
 refine (Tryz.check_fresh b w cell (by simp[World.shape?,D,B]) (by simp[World.frozen?,D])).mono ?_;rintro e N ⟨rfl,rfl⟩;obtain⟨M,le⟩:=s.setBox 0 250 [.val (.pointer none),x] [.loc 0 0,x] rfl b L #[.pointer (some ⟨b,0,none⟩),C[1]] rfl (by
  intro i c v d I
  match i with| 0=>simp at d I;subst d;subst I;exact .loc 0 0 b L| 1=>simp at d I;subst d;subst I;exact u 1 x _ rfl (by simp[B])| i+2=>simp at d)
 have z:A3 (hp (.cells 250 [.val (.pointer none),x]::rest)) 0 (.cells 250 [.loc 0 0,x])=hp (.cells 250 [.loc 0 0,x]::rest):=by funext i;cases i with| zero=>rfl| succ i=>rfl
 have eW:w.setCell ⟨b,0,none⟩ (.pointer (some ⟨b,0,none⟩))=w.setRow b #[.pointer (some ⟨b,0,none⟩),C[1]]:=by
  have g:C.setIfInBounds 0 (.pointer (some ⟨b,0,none⟩)) = #[.pointer (some ⟨b,0,none⟩),C[1]]:=by
   apply Array.ext
   .simp[B]
   .intro i hi q
    match i with| 0=>simp| 1=>rw[Array.getElem_setIfInBounds_ne _ δ];rfl| i+2=>simp at q;omega
  have f:(w.setCell ⟨b,0,none⟩ (.pointer (some ⟨b,0,none⟩))).heap=(w.setRow b #[.pointer (some ⟨b,0,none⟩),C[1]]).heap:=by
   apply Array.ext_getElem?;intro i;simp only[World.setCell,World.setRow,Array.getElem?_modify];split
   .rename_i e;subst e;rw[D];simp[g]
   .rfl
  unfold World.setCell World.setRow at f ⊢;simp only at f;rw[f]
 rw[z]at M le;rw[eW];exact⟨_,σ,ι,rfl,le,M,.tup _ _ rfl (λi c v d _=>by cases d)⟩
theorem A3k (h:∀x∈l,0<=x/\x<256) {j:Nat} {x:UInt8} (d:(Fp l)[j]? = some x):l[j]? = some (x.toNat:Int):=by simp only[Fp,getElem?_map,Option.map_eq_some_iff]at d;obtain⟨y,k,rfl⟩:=d;have b:=h y (mem_of_getElem? k);rw[k];congr 1;have:y.toNat<256:=ω;simp only[UInt8.toNat_ofNat'];omega
theorem St.kill (s:St σ ι H F W w) (h:Nat):St σ ι (A3 H h .dead) F W w/\Le σ ι H σ ι (A3 H h .dead):=by
 have le:Le σ ι H σ ι (A3 H h .dead):=by have:=Le.upd (ι:=ι) (H:=H) (A8.le_refl σ) h (ι h) .dead ⟨λ_ e=>e,(λ_ e=>by cases e),(λ_ k j i e=>by cases e)⟩;rwa [Kd]at this
 obtain⟨f1,f2⟩:=s.fresh;refine⟨s.touch h w.heap.size (λ_ _=>rfl) (λx e=>C2 _ _ e) le (λ_ _=>rfl) (λ_ _=>rfl) (λo g=>by rw[f1]at g;cases g) ?_ f2 ?_ ?_ rfl rfl rfl,le⟩
 .intro x _ c f;have:=(s.block c f).1;omega
 .intro b c;rw[Cn]at c;cases c
 .unfold C8;rw[Cn];trivial
theorem St.fbox (s0:St σ ι H F W w) {T:TypeId} {s:ByteArray} {b:Nat} {C:Array Value} (hh:H 0 = .cells T [p,x]) (hb:ι 0 = .box b) (h3:w.heap[b]? = some (.cells C T (0,0))) (hc:∀v,C[1]? = some v->CC σ (.fb s) v):St σ ι (A3 H 0 (.cells T [p,.fb s])) F W w/\Le σ ι H σ ι (A3 H 0 (.cells T [p,.fb s])):=by
 have f:=s0.obj 0;unfold C8 at f;rw[hh]at f;obtain⟨q,u,j,d,A,B,D,I⟩:=f;rw[hb]at j;cases j;rw[h3]at B;cases B;have le:Le σ ι H σ ι (A3 H 0 (.cells T [p,.fb s])):=by have:=Le.upd (ι:=ι) (H:=H) (A8.le_refl σ) 0 (ι 0) (.cells T [p,.fb s]) (by rw[hh];exact⟨λ_ e=>e,(λ_ e=>by cases e),(λ_ _ _ _ e=>by cases e)⟩);rwa [Kd]at this
 refine⟨s0.touch 0 b (λ_ _=>rfl) (λx e=>C2 _ _ e) le (λx e=>rfl) (λ_ _=>rfl) (λo e=>by rw[d]at e;cases e) ?_ A ?_ ?_ rfl rfl rfl,le⟩
 .intro x e k g;exact e (s0.inj x 0 b k (by rw[hh];rfl) g (by rw[hb];rfl))
 .intro l _ h;exact .inr ⟨by rw[hh];rfl,h⟩
 .unfold C8;rw[Cn];refine⟨b,C,hb,d,A,h3,by simpa using D,λi c v x y=>?_⟩
  match i with| 0=>exact (I 0 c v x y).mono le| 1=>cases x;exact .cc (hc v y)| i+2=>cases x
theorem A3l:Bp prog 175 [.loc 0 0] [.cells 250 [p,.arr 1 0 0 0],.rows 5 1 []] (G0 .empty) [.cells 250 [p,.fb .empty],.dead]:=by
 refine⟨⟨_,func175,κ,κ⟩,λσ F W w ι vs s y=>?_⟩;obtain⟨v,rfl,hv⟩:=Vd y;obtain⟨b,hb,hv⟩:=hv.loc_inv;subst hv;have J:=s.obj 0;unfold C8 at J;rw[Ab1]at J;obtain⟨b',C,V,_,_,h3,h4,Z⟩:=J;rw[hb]at V;cases V;have h4:C.size=2:=h4;have Y:C = #[C[0],C[1]]:=by
  apply Array.ext
  .simp[h4]
  .intro i hi L
   match i with| 0=>rfl| 1=>rfl| i+2=>simp at L;omega
 have M:=Z 1 (.arr 1 0 0 0) C[1] rfl (by simp[h4]);have x:hp [Bo.cells 250 [p,.arr 1 0 0 0],.rows 5 1 []] 1 = .rows 5 1 []:=rfl;have c:=M.arr_inv x ψ;have a1:=s.obj 1;unfold C8 at a1;rw[x]at a1;obtain⟨_,S,a1⟩:=a1;have eH:A3 (A3 (hp [Bo.cells 250 [p,.arr 1 0 0 0],.rows 5 1 []]) 1 .dead) 0 (.cells 250 [p,.fb .empty])=hp [Bo.cells 250 [p,.fb .empty],.dead]:=by
  funext i
  match i with| 0=>rfl| 1=>rfl| i+2=>rfl
 have go:∀(a q:Option Addr) (d:Nat) (z:A8) (j:World),C[1] = .slice a 0 d->j.heap[b]? = w.heap[b]?->(Builtin.unsafeSliceData_ #[248] 318 #[.slice a 0 d]).run prog w.drew = .ok (.pointer q) j ->
   Le σ ι (hp [Bo.cells 250 [p,.arr 1 0 0 0],.rows 5 1 []]) z ι (hp [Bo.cells 250 [p,.arr 1 0 0 0],.rows 5 1 []])->St z ι (hp [Bo.cells 250 [p,.arr 1 0 0 0],.rows 5 1 []]) F W j -> Calls prog 175 #[.pointer (some ⟨b,0,none⟩)] w λe w'=>∃v A B,e = .returned v/\Le σ ι (hp [Bo.cells 250 [p,.arr 1 0 0 0],.rows 5 1 []]) A B (hp [Bo.cells 250 [p,.fb .empty],.dead])/\St A B (hp [Bo.cells 250 [p,.fb .empty],.dead]) F W w'/\Conc A B (hp [Bo.cells 250 [p,.fb .empty],.dead]) (G0 .empty) v:=by intro a q d z j f u N le E;have h:w.heap[b]? = some (.cells #[C[0],.slice a 0 d] 250 (0,0)):=(by rw[h3];congr 1;rw[<-f,<-Y]);refine (Tryz.builder_str0 b d C[0] a q w j h (u.trans h) N).mono ?_;rintro e w' ⟨rfl,rfl⟩;obtain⟨X,G⟩:=E.kill 1;obtain⟨R,l⟩:=X.fbox (b:=b) (C:=#[C[0],.slice a 0 d]) (s:=.empty) (by rfl) hb ((u.trans h)) (λv hv=>by simp at hv;subst hv;exact .fbn _ _ _ rfl);rw[eH]at R l;exact⟨_,z,ι,rfl,(le.trans G).trans l,R,.of_val _⟩
 rcases a1 with⟨hi,_⟩|⟨g,k,D,hg,g1,g2,g3,g4,g5,g6⟩
 .unfold H6 at c;rw[hi]at c;exact go none none 0 σ w.drew c.1 rfl rfl (Le.refl _ _ _) (s.drew _)
 .unfold H6 at c;rw[hg]at c;simp only[Nat.zero_mul,Nat.zero_add,Nat.sub_zero]at c;obtain⟨_,f⟩:=c;by_cases ht:k=0
  .subst ht;obtain⟨E,I⟩:=(s.drew (w.drawn+1)).newFrozen (.view ⟨g,0,none⟩ 5);have U:=(Array.getElem?_eq_some_iff.1 h3).1;refine go _ _ 0 _ (w.drew.alloc (.view ⟨g,0,none⟩ 5)) f ?_ (Lib.run_unsafeSliceData_zero _ _ _ 5 underlying318 _ _ (5,D.size) (by have:w.drew.heap[g]? = some (.cells D 5 (0,0)):=g3;simp[World.shape?,this])) I E;show (w.heap.push _)[b]? = _;rw[Array.getElem?_push,if_neg ω]
  .exact go _ _ k σ w.drew f rfl (Lib.run_unsafeSliceData_row _ _ _ _ _ _ ht) (Le.refl _ _ _) (s.drew _)
theorem Arf (h:Zk l=some r):Bp prog 175 [.loc 0 0] [.cells 250 [p,.arr 1 l.length 0 l.length],.rows 5 1 (map (O .u8) l)] (G0 r) [.cells 250 [p,.fb r],.dead]:=by
 unfold Zk at h;split at h
 .rename_i a7;cases h;by_cases u:l = []
  .subst u;exact A3l
  refine⟨⟨_,func175,κ,κ⟩,λσ F W w ι vs s R=>?_⟩;obtain⟨v,rfl,hv⟩:=Vd R;obtain⟨b,hb,hv⟩:=hv.loc_inv;subst hv;have A:=s.obj 0;unfold C8 at A;rw[Ab1]at A;obtain⟨b',C,e1,_,_,h3,h4,h5⟩:=A;rw[hb]at e1;cases e1;have h4:C.size=2:=h4;have hC:C = #[C[0],C[1]]:=by
   apply Array.ext
   .simp[h4]
   .intro i hi a1
    match i with| 0=>rfl| 1=>rfl| i+2=>simp at a1;omega
  have a6:=h5 1 (.arr 1 l.length 0 l.length) C[1] rfl (by simp[h4]);have M:hp [Bo.cells 250 [p,.arr 1 l.length 0 l.length],.rows 5 1 (map (O .u8) l)] 1 = .rows 5 1 (map (O .u8) l):=rfl;have y:=a6.arr_inv M ψ;have d:=s.obj 1;unfold C8 at d;rw[M]at d;obtain⟨_,L,d⟩:=d;rw[length_map]at L;rcases d with⟨_,I⟩|⟨g,q,D,hg,g1,g2,g3,g4,g5,g6⟩
  .exact (u (by simpa using I)).elim
  .rw[length_map]at g5;unfold H6 at y;rw[hg]at y;simp only[Nat.zero_mul,Nat.zero_add,Nat.sub_zero]at y;obtain⟨ht,G⟩:=y;have c:(Fp l).length=l.length:=(by simp[Fp]);have f:∀(j:Nat) (x:UInt8),(Fp l)[j]? = some x->D[j]? = some (Value.int .u8 x.toNat):=(by intro j x hx;have hj:=A3k a7 hx;obtain⟨gg,q1,q2,q3⟩:=g6;have E:(map (O .u8) l)[j]? = some (O .u8 x.toNat):=(by rw[getElem?_map,hj];rfl);have Y:j<(map (O .u8) l).length:=(List.getElem?_eq_some_iff.1 E).1;have q4:=q3 j 0 Y ω;have q5:=(q2 j _ 0 _ E rfl).1;have:gg j 0=Value.int .u8 x.toNat:=(by generalize gg j 0=z at q5;cases q5;rfl);rw[this]at q4;simpa using q4);have S:w.heap[b]? = some (.cells #[C[0],.slice (some ⟨g,0,none⟩) (Fp l).length q] 250 (0,0)):=(by rw[h3];congr 1;rw[c];have:C[1] = .slice (some ⟨g,0,none⟩) l.length q:=G;rw[<-this,<-hC]);have U:l.length<=D.size:=(by rw[g4];omega);have call:=Tryz.builder_str b g q C[0] D (Fp l) w (by intro e;apply u;rw[<-length_eq_zero_iff,<-c,e];rfl) S g3 (by rw[c];exact g5) (by rw[c];exact U) (by rw[c];omega) f;refine call.mono ?_;rintro e w' ⟨rfl,rfl⟩;have J:(Fp l).length≠0:=(by rw[c];simpa using u);have Z:σ.le (A3 σ g (some (.cells D 5 (0,(Fp l).length)))):=(by intro b' o' a2;rw[C2 _ _ (by intro e;subst e;rw[g1]at a2;cases a2)];exact a2);have X:(w.drew.freeze ⟨g,0,none⟩ (Fp l).length).heap[g]? = some (.cells D 5 (0,(Fp l).length)):=(by unfold World.freeze;rw[if_neg J];simp only[Array.getElem?_modify,if_true];have:w.drew.heap[g]? = some (.cells D 5 (0,0)):=g3;rw[this];simp);have N:∀b,b≠g->(w.drew.freeze ⟨g,0,none⟩ (Fp l).length).heap[b]? = w.heap[b]?:=by
    intro b hb;unfold World.freeze;split
    .rfl
    .simp only[Array.getElem?_modify];rw[if_neg (Ne.symm hb)];rfl
   have le:Le σ ι (hp [Bo.cells 250 [p,.arr 1 l.length 0 l.length],.rows 5 1 (map (O .u8) l)]) (A3 σ g (some (.cells D 5 (0,(Fp l).length)))) ι (A3 (hp [Bo.cells 250 [p,.arr 1 l.length 0 l.length],.rows 5 1 (map (O .u8) l)]) 1 .dead):=(by have:=Le.upd (ι:=ι) (H:=hp [Bo.cells 250 [p,.arr 1 l.length 0 l.length],.rows 5 1 (map (O .u8) l)]) Z 1 (ι 1) .dead ⟨λ_ e=>e,(λ_ e=>by cases e),(λ_ E1 ac ab e=>by cases e)⟩;rwa [Kd]at this);have eH:A3 (A3 (hp [Bo.cells 250 [p,.arr 1 l.length 0 l.length],.rows 5 1 (map (O .u8) l)]) 1 .dead) 0 (.cells 250 [p,.fb ⟨(Fp l).toArray⟩])=hp [Bo.cells 250 [p,.fb ⟨(Fp l).toArray⟩],.dead]:=by
    funext i
    match i with| 0=>rfl| 1=>rfl| i+2=>rfl
   have aa:b≠g:=(by intro e;have:=s.inj 0 1 g rfl rfl (by rw[hb,e];rfl) (by rw[hg];rfl);cases this);have s2:St (A3 σ g (some (.cells D 5 (0,(Fp l).length)))) ι (A3 (hp [Bo.cells 250 [p,.arr 1 l.length 0 l.length],.rows 5 1 (map (O .u8) l)]) 1 .dead) F W (w.drew.freeze ⟨g,0,none⟩ (Fp l).length):=by
    refine s.touch (hdrw:=by unfold World.freeze;split <;> exact Nat.le_succ _) 1 g (λ_ _=>rfl) (λx e=>C2 _ _ e) le N (λx e=>C2 _ _ e) (λo A=>by rw[Cn]at A;cases A;exact X) ?_ g2 ?_ ?_ ?_ ?_ ?_
    .intro x hx V a8;exact hx (s.inj x 1 g V rfl a8 (by rw[hg];rfl))
    .intro b0 V;rw[Cn]at V;cases V
    .unfold C8;rw[Cn];trivial
    .unfold World.freeze;split <;> rfl
    .unfold World.freeze;split <;> rfl
    .unfold World.freeze;split <;> rfl
   obtain⟨s3,B⟩:=s2.fbox (b:=b) (C:=#[C[0],.slice (some ⟨g,0,none⟩) (Fp l).length q]) (s:=⟨(Fp l).toArray⟩) (by rfl) hb ((N b aa).trans S) (λv hv=>by simp only[getElem?_toArray,getElem?_cons_succ,getElem?_cons_zero,Option.some.injEq]at hv;subst hv;have k:(ByteArray.mk (Fp l).toArray).size=(Fp l).length:=(by simp[ByteArray.size]);rw[<-k];refine .fb _ g q D (by rw[Cn,k]) (by rw[k];exact J) (by rw[k,c];omega) (by rw[k,c];exact U) (by rw[k,c];omega) λj x hx=>f j x (by simpa using hx));rw[eH]at s3 B;exact⟨_,_,ι,rfl,le.trans B,s3,.of_val _⟩
 .cases h
theorem Arg {f:ByteArray} (h:(bif Nat.beq f.size 0 then none else some f)=some r):Bp prog 175 [.loc 0 0] [.cells 250 [p,.fb f]] (G0 r) [.cells 250 [p,.fb f]]:=by
 have q:r.size≠0/\f=r:=by cases d:Nat.beq f.size 0 with| true=>rw[d]at h;cases h| false=>rw[d]at h;cases h;exact⟨(λe=>by rw[e]at d;exact Bool.noConfusion d),rfl⟩
 clear h;obtain⟨q,A⟩:=q;subst A;refine⟨⟨_,func175,κ,κ⟩,λσ F W w ι vs s y=>?_⟩;obtain⟨v,rfl,hv⟩:=Vd y;obtain⟨b,d,hv⟩:=hv.loc_inv;subst hv;have B:=s.obj 0;unfold C8 at B;rw[Ab1]at B;obtain⟨U,C,L,_,_,h3,X,R⟩:=B;rw[d]at L;cases L;have X:C.size=2:=X;have J:C = #[C[0],C[1]]:=by
  apply Array.ext
  .simp[X]
  .intro i hi E
   match i with| 0=>rfl| 1=>rfl| i+2=>simp at E;omega
 have l:=R 1 (.fb f) C[1] rfl (by simp[X]);generalize C[1]=u at J l;generalize C[0]=M at J;subst J;cases l with
 | cc l=>
  cases l with
  | fbn _ a V h0=>exact (q h0).elim
  | fb _ g V D N h0 z I S G=>
   have hg:=s.sto _ _ N;have k:f.data.toList.length=f.size:=(by rw[Array.length_toList];rfl);have call:=Tryz.builder_str b g V M D f.data.toList w (by intro e;rw[e]at k;exact h0 k.symm) (by rw[k];exact h3) hg (by rw[k];exact z) (by rw[k];exact I) (by rw[k];omega) λj x hx=>G j x (by simpa using hx);refine call.mono ?_;rintro e w' ⟨rfl,rfl⟩;have hw:w.drew.freeze ⟨g,0,none⟩ f.data.toList.length=w.drew:=by
    unfold World.freeze;split
    .rfl
    .have:w.drew.heap.modify g (λo=>match o with|.cells c elem (lo,hi)=>.cells c elem (if lo==hi then (0,0+f.data.toList.length) else (min lo 0,max hi (0+f.data.toList.length))) | o=>o)=w.drew.heap:=by
      apply Array.ext_getElem?;intro i;rw[Array.getElem?_modify];split
      .rename_i e;subst e;have:w.drew.heap[g]? = some (.cells D 5 (0,f.size)):=hg;rw[this];simp[k,Ne.symm h0]
      .rfl
     exact congrArg (λh=>{w.drew with heap:=h}) this
   rw[hw];have er:(⟨f.data.toList.toArray⟩:ByteArray)=f:=ψ;rw[er];exact⟨_,σ,ι,rfl,Le.refl _ _ _,s.drew _,.of_val _⟩
end Go.Ab
namespace Go.Ab
open Go Go.Proofs Go.Proofs.Tryz
set_option linter.unusedVariables false
class OK {α:Type} (o:Option α) (G:outParam (α->Prop)):Prop where
 ok:∀{r:α},o=some r->G r
theorem Fb {α:Type} {G:α->Prop}:OK (none:Option α) G:=⟨λh=>by cases h⟩
section
variable {P:Program} {C:Cfg} {X:Nat->Cd->Hp->Prop} {U:Nat->Nat->Cd->Hp->Prop} {V:Nat->Cd->Hp->Prop} {n:Nat} {e:Cd} {H:Hp} {β:Type} {r:β}
variable {T:Dq} {an:Nat->Ann} {nl:Nat->List (Nat×Nat)} {ops:Array Oper} {o:Oper} {os:List Oper} {acc:Ll} {K:Nat->Cd->Hp->Ll->Prop}
variable {fn:Func} {hi i lo:Int} {xs ys zs:List AV} {hs:List Bo} {b kk n0:Nat} {E S α:Type} {J:E->Option β} {l:List α} {g:List α->List AV} {m:List α->Option β} {s0:S} {I:S->List (Nat×AV)} {hv:S->List (Nat×Bo)} {x:α} {ra:α->AV} {G:α->Prop}
theorem Ip {p:Nat×Bool} {s:Nat} {b:Bool} {m m':Option β} (h:(bif b then m else m')=some r) (d:b=true->m=some r->Gk (F4 P T an nl ops (o::os) n (A3 e s (.val (.bool true))) H acc K)) (j:b=false->m'=some r->Gk (F4 P T an nl ops (o::os) n (A3 e s (.val (.bool false))) H acc K)) (hg:o.guard=some p:=by exact rfl) (hs:(ops[p.1]?).bind (·.dst)=some s:=by exact rfl) (hb:e s = .val (.bool b):=by exact rfl):Gk (F4 P T an nl ops (o::os) n e H acc K):=A2m h d j hb
theorem nw {c:Code} (k:wc P C c X U V n e H):Gk (wc P C c X U V n e H):=.mk k
theorem C7 {o:S⊕E} {x:E} (h:some (Sum.inr x)=some o) (d:∀x,Sum.inr x=o->J x=some r:=by assumption):J x=some r:=d x (Option.some.inj h)
theorem lpj {o:S} {J:S->Option β} {x:S} (h:some x=some o) (d:∀y,y=o->J y=some r:=by assumption):J x=some r:=d x (Option.some.inj h)
theorem lpn {o:S⊕E} {s':S} {K:Nat->Cd->Hp->Prop} {d:S->Prop} {H0:Hp} (h:some (Sum.inl s')=some o) (q:∀s' s j k,Sum.inl s'=o->Hq j (I s')->Hw k (Cr H0 (hv s')) n0 n0->d s'->K s j k:=by assumption) (hs:Hq e (I s'):=by (repeat refine⟨rfl,?_⟩);exact trivial) (hh:Hw H (Cr H0 (hv s')) n0 n0:=by (repeat refine⟨⟨rfl,rfl⟩,?_⟩);exact trivial) (hi:d s':=by first|trivial|exact rfl | ((repeat refine Ji ?_ _ _);first|exact rfl|assumption)):K n e H:=q s' n e H (Option.some.inj h) hs hh hi
theorem jnn {o x:E} {s:S} {J:S->Prop} {K:Nat->Cd->Hp->Prop} {H0:Hp} (h:some x=some o) (k:∀s q d j,J s->Hq d (I s)->Hw j (Cr H0 (hv s)) n0 n0->K q d j:=by assumption) (u:J s:=by exact Option.some.inj h) (hs:Hq e (I s):=by (repeat refine⟨rfl,?_⟩);exact trivial) (hh:Hw H (Cr H0 (hv s)) n0 n0:=by (repeat refine⟨⟨rfl,rfl⟩,?_⟩);exact trivial):K n e H:=k s n e H u hs hh
theorem Sr {o:Option α} {m:α->Option β} {f:FuncId} {args:List AV} {K:Eff->Nat->Prop} (h:o.bind m=some r) [i:OK o G] (k:∀v,m v=some r->K ⟨ra v,[],[]⟩ n) (d:∀v,G v->A6 P f args (ra v):=by exact λ_ h=>h) (j:args.all AV.free=true:=by exact rfl):F9 P n H f args K := Df h λv hv h=>F9.mk _ (d v (i.ok hv)) j (k v h)
theorem Arh {o:Option α} {m:α->Option β} {f:FuncId} {args d:List AV} {K:Eff->Nat->Prop} (h:o.bind m=some r) [i:OK o G] (k:∀v,m v=some r->K ⟨ra v,[],[]⟩ n) (j:∀v,G v->A6 P f d (ra v):=by exact λ_ h=>h) (hs:Rq args d:=by (repeat first|refine⟨Sub.refl _,?_⟩|refine⟨Sub.nil _,?_⟩);exact trivial) (q:args.all AV.free=true:=by exact rfl):F9 P n H f args K := Df h λv hv h=>F9.mk _ (A6.sub (j v (i.ok hv)) hs (Sub.refl _)) q (k v h)
theorem Qx {o:Option α} {m:α->Option β} {f:FuncId} {args largs:List AV} {hs':α->List Bo} {K:Eff->Nat->Prop} (l:List Nat) (h:o.bind m=some r) [i:OK o G] (k:∀v,m v=some r->K ⟨ren (Dh n l) (ra v),E5 (Dh n l) 0 hs++Cs (Dh n l) l.length ((hs' v).length-l.length),E5 (Dh n l) 0 (hs' v)⟩ (n+((hs' v).length-l.length))) (d:∀v,G v->Bp P f largs hs (ra v) (hs' v):=by exact λ_ h=>h) (j:largs.map (ren (Dh n l))=args:=by exact rfl) (ok:∀v,La n l largs hs (ra v) (hs' v)=true:=by exact λ_=>rfl) (hh:N8 H (E5 (Dh n l) 0 hs):=by (repeat refine⟨rfl,?_⟩);exact trivial):F9 P n H f args K := Df h λv hv h=>F9.act l largs hs (ra v) (hs' v) (d v (i.ok hv)) j (ok v) hh (k v h)
theorem A3m {F:List α->Option (List α)} {cmp:α->α->Option Int} {b:Oper} {c:Call} {x:Operand} {f g d E sz:Nat} {eA:α->AV} {K:Cd->Hp->Prop} (s:Nat) (V:(∀x y n,cmp x y=some n->A6 P g [eA x,eA y] (O .i64 n))->(∃o,Jt cmp l o)->l≠[]->N7 P f [.arr 0 l.length 0 l.length,.fn g []] [.rows E sz (l.map eA)] (λa hs'=>∃o,Jt cmp l o/\a = .tup []/\hs' = [.rows E sz (o.map eA)])) (h:(T7.mk F cmp l).bind m=some r) [i:OK (F l) λo=>Bp P f [.arr 0 l.length 0 l.length,.fn g []] [.rows E sz (l.map eA)] (.tup []) [.rows E sz (o.map eA)]] [j:∀x y,OK (cmp x y) λn=>A6 P g [eA x,eA y] (O .i64 n)] (k:∀o,m o=some r->K (A3 e d (.tup [])) (A3 H s (.rows E sz (o.map eA)))) (X:b.op = .call c:=by exact rfl) (u:c.callee = .value x:=by exact rfl) (hx:ev e x = .fn f []:=by exact rfl) (A:b.dst=some d:=by exact rfl) (ha:[.arr s l.length 0 l.length,.fn g []]=c.args.toList.map (ev e):=by exact rfl) (hn:Nat.blt s n=true:=by exact rfl) (hh:H s = .rows E sz (l.map eA):=by exact rfl):Aks P b n e H K:=by
 have B:∀R:AV->List Bo->Prop,N7 P f [.arr 0 l.length 0 l.length,.fn g []] [.rows E sz (l.map eA)] R->(∃o:List α,R (.tup []) [.rows E sz (o.map eA)])->(∀a hs',R a hs'->∃o:List α,a = .tup []/\hs' = [.rows E sz (o.map eA)]/\m o=some r)->Aks P b n e H K:=by
  rintro R hR ⟨o0,h0⟩ N;refine .mk c x f [] [s] _ _ R _ _ hR X u hx (by rw[append_nil,<-ha];rfl) h0 (λa hs' q=>?_) ⟨hh,trivial⟩ λa hs' q=>?_
  .obtain⟨o,rfl,rfl,_⟩:=N a hs' q;refine⟨?_,rfl⟩;simp[La,O6,hn,AV.under,AV.under1,Bo.under]
  .obtain⟨o,rfl,rfl,I⟩:=N a hs' q;have:=k o I;rw[A];exact this
 unfold T7.bind at h;cases L:Nat.ble l.length 12 with| true=>simp only[L,cond_true]at h;obtain⟨o,D,M⟩:=Option.bind_eq_some_iff.1 h;exact B _ (i.ok D).toR ⟨o,rfl,rfl⟩ λa hs' q=>⟨o,q.1,q.2,M⟩| false=>simp only[L,cond_false]at h;obtain⟨⟨o,D⟩,M⟩:=A27 h;exact B _ (V (λx y n q=>(j x y).ok q) ⟨o,D⟩ (by rintro rfl;cases L)) ⟨o,o,D,rfl,rfl⟩ λa hs' ⟨U,q1,I,q3⟩=>⟨U,I,q3,M U q1⟩
theorem Ps {f:α->AV} {m:α->Option β} {K:Nat->AV->Prop} (h:(Ag l i).bind m=some r) (k:∀(n:Nat) (x:α),i=n->l[n]? = some x->m x=some r->K n (f x)) (d:ys=l.map f:=by first|exact rfl|exact Lp _|exact Lq _|exact Jl _):Wg ys i K:=Aqm d h k
theorem Iq {f:α->AV} {m:α->Option β} {K:Nat->Prop} {len:Nat} (h:(Ag l i).bind m=some r) (k:∀(n:Nat) (x:α),i=n->l[n]? = some x->m x=some r->K n) (d:ys=l.map f:=by first|exact rfl|exact Lp _|exact Lq _|exact Jl _) (j:len=l.length:=by first|exact rfl|assumption|exact It (by assumption) | ((repeat refine Ji ?_ _ _);first|exact rfl|assumption)) (q:kk=l.length:=by first|exact rfl|assumption|exact It (by assumption) | ((repeat refine Ji ?_ _ _);first|exact rfl|assumption)):Tv len kk ys i K:=A2n d j q h k
theorem Nt {f:α->AV} {m:α->Option β} {K:Nat->Prop} {off len:Nat} (h:(Ig l off len i).bind m=some r) (k:∀(n:Nat) (x:α),i=n->l[off+n]? = some x->m x=some r->K n) (d:ys=l.map f:=by first|exact rfl|exact Lp _|exact Lq _|exact Jl _) (j:kk=l.length:=by first|exact rfl|assumption|exact It (by assumption) | ((repeat refine Ji ?_ _ _);first|exact rfl|assumption)):Tv len kk ys i K:=A2o d j h k
theorem Ss {f:α->AV} {K:Int->Prop} (k:K (l.length:Int)) (d:ys=l.map f:=by first|exact rfl|exact Lp _|exact Lq _|exact Jl _):Ob ys K:=A2z d k
theorem Su {f:α->AV} {K:Prop} (k:K) (d:ys=l.map f:=by first|exact rfl|exact Lp _|exact Lq _|exact Jl _) (h:kk=l.length:=by first|exact rfl|assumption|exact It (by assumption) | ((repeat refine Ji ?_ _ _);first|exact rfl|assumption)):Is kk ys K:=A20 d h k
theorem Sv {K:Prop} (k:K):Is 0 [] K:=.mk rfl k
theorem Sw {f:α->AV} {n i:Nat} {K:AV->Prop} (k:K (f x)) (d:ys=l.map f:=by first|exact rfl|exact Lp _|exact Lq _|exact Jl _) (h:kk=l.length:=by first|exact rfl|assumption|exact It (by assumption) | ((repeat refine Ji ?_ _ _);first|exact rfl|assumption)) (hi:i=n/\l[n]? = some x:=by first|exact⟨Nat.zero_add _,by assumption⟩|exact⟨rfl,by assumption⟩):Nd kk i ys K:=A2t d h hi.1 hi.2 k
theorem Ari {f:α->AV} {n i:Nat} {j:Int} {p:AV} {K:List AV->Prop} (k:K ((Ct l j x).map f)) (d:ys=l.map f:=by first|exact rfl|exact Lp _|exact Lq _|exact Jl _) (hp:p=f x:=by exact rfl) (hi:i=n/\j=(n:Int):=by first|exact⟨Nat.zero_add _,by assumption⟩|exact⟨rfl,by assumption⟩|exact⟨rfl,Aqi _ (by assumption)⟩):Wi ys i p K:=Mt d hp hi.1 hi.2 k
theorem Kx {ys:List α} {f:α->AV} {len:Nat} {K:List AV->Nat->Prop} {j:List AV->Nat->Nat->Prop} (h:(B6 b l ys).bind m=some r) (k:∀o:List α,m o=some r->K (o.map f) o.length) (d:xs=l.map f/\zs=ys.map f:=by first|exact⟨rfl,rfl⟩ | (refine⟨?_,?_⟩;rotate_left;exact rfl;exact rfl)) (q:kk=l.length:=by first|exact rfl|assumption|exact It (by assumption) | ((repeat refine Ji ?_ _ _);first|exact rfl|assumption)) (s:len=l.length:=by first|exact rfl|assumption|exact It (by assumption) | ((repeat refine Ji ?_ _ _);first|exact rfl|assumption)):Oa xs zs kk len b K j:=T3 d.1 d.2 q s h k
theorem Arj {l:List Int} {s:ByteArray} {len:Nat} {m:List Int->Option β} {K:List AV->Nat->Prop} {d:List AV->Nat->Nat->Prop} (h:(B6 b l (Od s)).bind m=some r) (k:∀o:List Int,m o=some r->K (o.map λn=>.val (.int .u8 n)) o.length) (j:xs=l.map λn=>.val (.int .u8 n):=by exact rfl) (q:kk=l.length:=by first|exact rfl|assumption|exact It (by assumption) | ((repeat refine Ji ?_ _ _);first|exact rfl|assumption)) (u:len=l.length:=by first|exact rfl|assumption|exact It (by assumption) | ((repeat refine Ji ?_ _ _);first|exact rfl|assumption)):Oa xs (Ks s) kk len b K d:=A2w j q u h k
class GL {α:Type} (g:List α->List AV) (f:outParam (α->AV)):Prop where
 eq:∀l,g l=l.map f
instance:GL Bm Em:=⟨Lp⟩
instance:GL Ht Fy:=⟨Lq⟩
instance:GL G8 Fq:=⟨Jl⟩
theorem Ali {f:α->AV} [i:GL g f] {ys:List α} {len:Nat} {K:List AV->Nat->Prop} {d:List AV->Nat->Nat->Prop} (h:(B6 b l ys).bind m=some r) (k:∀o:List α,m o=some r->K (g o) o.length) (j:zs=ys.map f:=by first|exact rfl|exact GL.eq _) (q:kk=l.length:=by first|exact rfl|assumption|exact It (by assumption) | ((repeat refine Ji ?_ _ _);first|exact rfl|assumption)) (s:len=l.length:=by first|exact rfl|assumption|exact It (by assumption) | ((repeat refine Ji ?_ _ _);first|exact rfl|assumption)):Oa (g l) zs kk len b K d:=A2x i.eq (i.eq l) j q s h k
theorem Ark {ys:List α} {f:α->AV} {K:List AV->Nat->Prop} (h:(B6 b [] ys).bind m=some r) (k:∀o:List α,m o=some r->K (o.map f) o.length) (d:zs=ys.map f:=by exact rfl):Tw zs b K:=Aqu d h k
theorem Arl {f:α->AV} [i:GL g f] {ys:List α} {K:List AV->Nat->Prop} (h:(B6 b [] ys).bind m=some r) (k:∀o:List α,m o=some r->K (g o) o.length) (d:zs=g ys:=by exact rfl):Tw zs b K:=Aqv i.eq (d.trans (i.eq ys)) h k
theorem Jm {z:α} {f:α->AV} {j:AV} {len d:Int} {K:Nat->List AV->Prop} (h:(Gw b len d z).bind m=some r) (k:∀o:List α,m o=some r->K o.length (o.map f)) (q:j=f z:=by first|exact (rfl:_=O _ _) | exact (rfl:_=Av _) | exact rfl):Wh len d b j K:=A2y q h k
theorem Ve {f:α->AV} {K:List AV->Prop} (h:(F5 l lo hi).bind m=some r) (k:∀d:List α,m d=some r->K (d.map f)) (j:ys=l.map f:=by first|exact rfl|exact Lp _|exact Lq _|exact Jl _):N9 ys lo hi K:=Akj j h k
theorem Arm {f:α->AV} [i:GL g f] {K:List AV->Prop} (h:(F5 l lo hi).bind m=some r) (k:∀d:List α,m d=some r->K (g d)):N9 (g l) lo hi K:=A2u i.eq (i.eq l) h k
theorem Xt {f:α->AV} [i:GL g f] {K:List AV->Prop} (h:(F5 l lo l.length).bind m=some r) (k:∀d:List α,m d=some r->K (g d)):N9 (g l) lo (g l).length K:=A2v i.eq (i.eq l) h k
theorem Agb {f:α->AV} {K:List AV->Prop} (h:(F5 l lo l.length).bind m=some r) (k:∀d:List α,m d=some r->K (d.map f)) (j:ys=l.map f:=by first|exact rfl|exact Lp _|exact Lq _|exact Jl _):N9 ys lo ys.length K:=Aqt j h k
theorem E7 {step:S->Option (S⊕E)} {b:Code} (h:(Am step s0).bind J=some r) (I:S->List (Nat×AV)) (hv:S->List (Nat×Bo)) (d:S->Prop) (j:∀(s:S) (u:Nat->Value) (K:Nat->Cd->Hp->Prop) (o:S⊕E),step s=some o->(∀x,.inr x=o->J x=some r)->(∀k A q y,.inl k=o->Hq q (I k)->Hw y (Cr H (hv k)) n n->d k->K A q y)->d s -> wc P C b K U V n (Ku (Hr b) e u (I s)) (Cr H (hv s))) (hb:∀s,Lb n (I s) (hv s)=true:=by exact λ_=>rfl) (hs:Hq e (I s0):=by (repeat refine⟨rfl,?_⟩);exact trivial) (hh:Hw H (Cr H (hv s0)) n n:=by (repeat refine⟨⟨rfl,rfl⟩,?_⟩);exact trivial) (h0:d s0:=by first|exact rfl|assumption|exact It (by assumption) | ((repeat refine Ji ?_ _ _);first|exact rfl|assumption)):wc P C (.loop b) X U V n e H:=Aq2 h I hv d hb hs hh h0 j
theorem Arn {step:S->Option (S⊕E)} {b:Code} (h:(Am step s0).bind J=some r) (I:S->List (Nat×AV)) (hv:S->List (Nat×Bo)) (d:∀(s:S) (u:Nat->Value) (K:Nat->Cd->Hp->Prop) (o:S⊕E),step s=some o->(∀x,.inr x=o->J x=some r)->(∀j y k q,.inl j=o->Hq k (I j)->Hw q (Cr H (hv j)) n n->True->K y k q) -> wc P C b K U V n (Ku (Hr b) e u (I s)) (Cr H (hv s))) (hb:∀s,Lb n (I s) (hv s)=true:=by exact λ_=>rfl) (hs:Hq e (I s0):=by (repeat refine⟨rfl,?_⟩);exact trivial) (hh:Hw H (Cr H (hv s0)) n n:=by (repeat refine⟨⟨rfl,rfl⟩,?_⟩);exact trivial):wc P C (.loop b) X U V n e H:=Aq2 h I hv (λ_=>True) hb hs hh trivial λs u K o A B D _=>d s u K o A B D
theorem Alj {S':Type} {c:Code} {o:Option S'} {m:S'->Option β} (d:S->S') (h:o.bind m=some r) (I:S->List (Nat×AV)) (hv:S->List (Nat×Bo)) (A:∀x,o=some x->∀(K:Nat->Cd->Hp->Prop),(∀s B j k,d s=x->Hq j (I s)->Hw k (Cr H (hv s)) n n->K B j k)->(∀y,y=x->m y=some r)->wc P C c K U V n e H) (D:∀(s:S) (u:Nat->Value),m (d s)=some r->X n (Ku (Hr c) e u (I s)) (Cr H (hv s))) (hb:∀s,Lb n (I s) (hv s)=true:=by exact λ_=>rfl):wc P C c X U V n e H := Aql h λx L q=>Rx (λs=>d s=x) I hv hb (λK M=>A x L K M q) λs u hs=>D s u (q _ hs)
theorem My {c:Code} {o:Option S} {m:S->Option β} (h:o.bind m=some r) (I:S->List (Nat×AV)) (hv:S->List (Nat×Bo)) (k:∀x,o=some x->∀(K:Nat->Cd->Hp->Prop),(∀s q d j,s=x->Hq d (I s)->Hw j (Cr H (hv s)) n n->K q d j)->(∀y,y=x->m y=some r)->wc P C c K U V n e H) (A:∀(s:S) (u:Nat->Value),m s=some r->X n (Ku (Hr c) e u (I s)) (Cr H (hv s))) (hb:∀s,Lb n (I s) (hv s)=true:=by exact λ_=>rfl):wc P C c X U V n e H:=Alj (λs=>s) h I hv k A hb
abbrev C0:Cfg:={T:=Co,an:=λ_=>.ask}
theorem pw {f:FuncId} {c:Code} {args:List AV} {r:AV} (C:Cfg) (k:prog.funcs[f]? = some fn) (hv:wc prog C c (λ_ e H=>Ty C.T fn.results.toList (· = r) e H) (λ_ _ _ _=>False) (λ_ e H=>Ty C.T fn.results.toList (· = r) e H) 0 (Wp args) H0) (q:C.T=Co:=by exact rfl) (hb:fn.body=some c:=by exact rfl) (d:(fn.name == "runtime.NumGoroutine")=false:=by kernel_rfl) (j:Wq fn c args.length=true:=by kernel_rfl) (h:r.free=true:=by exact rfl):A6 prog f args r:=A21 (by rw[q];exact Aq7) Zg k hb d j h hv
theorem aw {f:FuncId} {c:Code} {args:List AV} {r:AV} {hs':List Bo} (C:Cfg) (j:Bool) (q:prog.funcs[f]? = some fn) (hv:wc prog C c (λ_ e H=>T1 C.T j fn.results.toList r hs' e H) (λ_ _ _ _=>False) (λ_ e H=>T1 C.T j fn.results.toList r hs' e H) hs.length (Wp args) (hp hs)) (s:C.T=Co:=by exact rfl) (hb:fn.body=some c:=by exact rfl) (d:(fn.name == "runtime.NumGoroutine")=false:=by kernel_rfl) (k:Wq fn c args.length=true:=by kernel_rfl) (h:Akf hs r hs'=true:=by exact rfl):Bp prog f args hs r hs':=A22 j (by rw[s];exact Aq7) Zg q hb d k h hv
end
variable {P Q:Prop}
theorem opk {P:Program} {T:Dq} {an:Nat->Ann} {nl:Nat->List (Nat×Nat)} {o:Oper} {n:Nat} {e:Cd} {H:Hp} {acc:Ll} {K:Nat->Cd->Hp->Ll->Prop} (k:opK P T an nl o n e H acc K):opK P T an nl o n e H acc K:=k
theorem cnd {t:Bool} {A B:Prop} (k:bif t then A else B):bif t then A else B:=k
structure Hd (Q:Prop):Prop where
 get:Q
theorem Z (k:Q) (h:Hd Q->P:=by
  intro q
  repeat first
    | ((with_reducible show Gk (F4 _ _ _ _ _ (_::_) _ _ _ _ _));(first|refine nx ?_|refine Rs ?_|refine Rr ?_))
    | ((with_reducible refine opk ?_);conv=>whnf
       first
      | ((with_reducible show Gk _);refine nw ?_)
      | ((with_reducible show Jh _ _ _);refine Jh.mk _ rfl ?_)
      | ((with_reducible show Ob _ _);refine Ss ?_)
      | ((with_reducible show Nd _ _ _ _);refine Sw ?_)
      | ((with_reducible show Is _ _ _);(first|refine Su ?_|refine Sv ?_)))
    | ((with_reducible show Gk (F4 _ _ _ _ _ [] _ _ _ _ _));refine L9 ?_)
    | ((with_reducible show Gk (wc _ _ _ _ _ _ _ _ _));refine nw ?_)
    | with_reducible refine A9 ?_
    | with_reducible refine Gz ?_
    | with_reducible refine Akn ?_
    | with_reducible refine Ma ?_
    | with_reducible refine Ni ?_
    | with_reducible refine Ih ?_
    | with_reducible refine Aqz ?_
    | with_reducible refine Akp ?_
    | with_reducible refine Ako ?_
    | ((with_reducible refine cnd ?_);first|refine Ie rfl ?_|refine Aj8 rfl ?_)
    | ((with_reducible show Pa _ _ _);refine Pa.mk κ ?_)
    | ((with_reducible show wc _ _ (.cond _ _ _) _ _ _ _ _ _);first|refine Ae5 ?_|refine Ae6 ?_)
    | refine nw ?_
    | refine nx ?_
    | refine L9 ?_
    | refine Rs ?_
    | refine Rr ?_
    | (conv=>whnf
       first
      | ((with_reducible show Gk _);refine nw ?_)
      | ((with_reducible show Jh _ _ _);refine Jh.mk _ rfl ?_)
      | ((with_reducible show Ob _ _);refine Ss ?_)
      | ((with_reducible show Nd _ _ _ _);refine Sw ?_)
      | ((with_reducible show Is _ _ _);(first|refine Su ?_|refine Sv ?_)))
  exact q.get):P:=h ⟨k⟩
theorem ZS (k:Q) (h:Hd Q->P:=by
  intro q
  repeat first
    | ((with_reducible show Gk (F4 _ _ _ _ _ (_::_) _ _ _ _ _));(first|refine nx ?_|refine Rs ?_|refine Rr ?_))
    | ((with_reducible refine opk ?_);conv=>whnf
       first
      | ((with_reducible show Gk _);refine nw ?_)
      | ((with_reducible show Jh _ _ _);refine Jh.mk _ rfl ?_)
      | ((with_reducible show Ob _ _);refine Ss ?_)
      | ((with_reducible show Nd _ _ _ _);refine Sw ?_)
      | ((with_reducible show Is _ _ _);(first|refine Su ?_|refine Sv ?_)))
    | ((with_reducible show Gk (F4 _ _ _ _ _ [] _ _ _ _ _));refine L9 ?_)
    | ((with_reducible show Gk (wc _ _ _ _ _ _ _ _ _));refine nw ?_)
    | with_reducible refine A9 ?_
    | with_reducible refine Akn ?_
    | with_reducible refine Ma ?_
    | with_reducible refine Ni ?_
    | with_reducible refine Ih ?_
    | with_reducible refine Akp ?_
    | with_reducible refine Ako ?_
    | ((with_reducible refine cnd ?_);first|refine Ie rfl ?_|refine Aj8 rfl ?_)
    | ((with_reducible show Pa _ _ _);refine Pa.mk κ ?_)
    | ((with_reducible show wc _ _ (.cond _ _ _) _ _ _ _ _ _);first|refine Ae5 ?_|refine Ae6 ?_)
    | refine nw ?_
    | refine nx ?_
    | refine L9 ?_
    | refine Rs ?_
    | refine Rr ?_
    | (conv=>whnf
       first
      | ((with_reducible show Gk _);refine nw ?_)
      | ((with_reducible show Jh _ _ _);refine Jh.mk _ rfl ?_)
      | ((with_reducible show Ob _ _);refine Ss ?_)
      | ((with_reducible show Nd _ _ _ _);refine Sw ?_)
      | ((with_reducible show Is _ _ _);(first|refine Su ?_|refine Sv ?_)))
  exact q.get):P:=h ⟨k⟩
theorem ZO (k:Q) (h:Hd Q->P:=by
  intro q
  repeat first
    | ((with_reducible show Gk (F4 _ _ _ _ _ (_::_) _ _ _ _ _));(first|refine nx ?_|refine Rs ?_|refine Rr ?_))
    | ((with_reducible refine opk ?_);conv=>whnf
       first
      | ((with_reducible show Jh _ _ _);refine Jh.mk _ rfl ?_)
      | ((with_reducible show Ob _ _);refine Ss ?_)
      | ((with_reducible show Nd _ _ _ _);refine Sw ?_)
      | ((with_reducible show Is _ _ _);(first|refine Su ?_|refine Sv ?_)))
    | ((with_reducible show Gk (F4 _ _ _ _ _ [] _ _ _ _ _));refine L9 ?_)
    | ((with_reducible show Pa _ _ _);refine Pa.mk κ ?_)
    | refine nx ?_
    | refine L9 ?_
    | refine Rs ?_
    | refine Rr ?_
    | (conv=>whnf
       first
      | ((with_reducible show Jh _ _ _);refine Jh.mk _ rfl ?_)
      | ((with_reducible show Ob _ _);refine Ss ?_)
      | ((with_reducible show Nd _ _ _ _);refine Sw ?_)
      | ((with_reducible show Is _ _ _);(first|refine Su ?_|refine Sv ?_)))
  exact q.get):P:=h ⟨k⟩
theorem Y (h:P:=by
  repeat' first
    | ((with_reducible show Gk (F4 _ _ _ _ _ (_::_) _ _ _ _ _));first|refine nx ?_|refine Rs ?_|refine Rr ?_|refine Ip h (λ_ h=>?_) λ_ h=>?_)
    | ((with_reducible refine opk ?_);conv=>whnf
       first
      | ((with_reducible show Gk _);refine nw ?_)
      | ((with_reducible show Jh _ _ _);refine Jh.mk _ rfl ?_)
      | ((with_reducible show Ob _ _);refine Ss ?_)
      | ((with_reducible show F9 _ _ _ _ _ _);(first|refine Sr h (λ_ h=>?_) | refine Arh h λ_ h=>?_))
      | ((with_reducible show Wg _ _ _);refine Ps h λ_ _ _ _ h=>?_)
      | ((with_reducible show Tv _ _ _ _ _);(first|refine Iq h (λ_ _ _ _ h=>?_) | refine Nt h λ_ _ _ _ h=>?_))
      | ((with_reducible show Nd _ _ _ _);refine Sw ?_)
      | ((with_reducible show Wi _ _ _ _);refine Ari ?_)
      | ((with_reducible show Oa _ _ _ _ _ _ _);(first|refine Arj h (λ_ h=>?_) | refine Kx h (λ_ h=>?_) | refine Ali h λ_ h=>?_))
      | ((with_reducible show Tw _ _ _);(first|refine Ark h (λ_ h=>?_) | refine Arl h λ_ h=>?_))
      | ((with_reducible show Wh _ _ _ _ _);refine Jm h λ_ h=>?_)
      | ((with_reducible show N9 _ _ _ _);(first|refine Xt h (λ_ h=>?_) | refine Agb h (λ_ h=>?_) | refine Arm h (λ_ h=>?_) | refine Ve h λ_ h=>?_))
      | ((with_reducible show Is _ _ _);(first|refine Su ?_|refine Sv ?_))
      | ((with_reducible show Aei _ _ _);refine Zn h λ_ h=>?_)
      | ((with_reducible show Aed _ _ _ _);refine Zm h λ_ h=>?_)
      | ((with_reducible show Aee _ _ _);refine Ae4 h λ_ h=>?_)
      | ((with_reducible show Aef _ _ _ _);refine Aqx h λ_ h=>?_)
      | ((with_reducible show Aeg _ _ _ _);refine Akl h λ_ _ _ _ h=>?_)
      | ((with_reducible show Aej _ _);refine I0 h λh=>?_)
      | ((with_reducible show Aek _ _ _ _ _);refine Aqq h λ_ h=>?_)
      | ((with_reducible show Ael _ _ _ _);refine Aqr h λ_ h=>?_))
    | ((with_reducible show Gk (F4 _ _ _ _ _ [] _ _ _ _ _));refine L9 ?_)
    | ((with_reducible show Gk (wc _ _ _ _ _ _ _ _ _));refine nw ?_)
    | with_reducible refine A9 ?_
    | with_reducible refine Gz ?_
    | with_reducible refine Akn ?_
    | with_reducible refine Ma ?_
    | with_reducible refine Ni ?_
    | with_reducible refine Ih ?_
    | with_reducible refine Aqz ?_
    | with_reducible refine Akp ?_
    | with_reducible refine Ako ?_
    | ((with_reducible refine cnd ?_);first|refine Ie rfl ?_|refine Aj8 rfl ?_)
    | ((with_reducible show wc _ _ (.cond _ _ _) _ _ _ _ _ _);first|refine Er h (λ_ h=>?_) (λ_ h=>?_) | refine Ae5 ?_|refine Ae6 ?_)
    | ((with_reducible show Pa _ _ _);refine Pa.mk κ ?_)
    | refine nx ?_
    | refine L9 ?_
    | refine Rs ?_
    | refine Rr ?_
    | refine Ip h (λ_ h=>?_) (λ_ h=>?_)
    | exact lpn h
    | exact jnn h
    | replace h:=C7 h
    | replace h:=lpj h
    | refine nw ?_
    | (conv=>whnf
       first
      | ((with_reducible show Gk _);refine nw ?_)
      | ((with_reducible show Jh _ _ _);refine Jh.mk _ rfl ?_)
      | ((with_reducible show Ob _ _);refine Ss ?_)
      | ((with_reducible show F9 _ _ _ _ _ _);(first|refine Sr h (λ_ h=>?_) | refine Arh h λ_ h=>?_))
      | ((with_reducible show Wg _ _ _);refine Ps h λ_ _ _ _ h=>?_)
      | ((with_reducible show Tv _ _ _ _ _);(first|refine Iq h (λ_ _ _ _ h=>?_) | refine Nt h λ_ _ _ _ h=>?_))
      | ((with_reducible show Nd _ _ _ _);refine Sw ?_)
      | ((with_reducible show Wi _ _ _ _);refine Ari ?_)
      | ((with_reducible show Oa _ _ _ _ _ _ _);(first|refine Arj h (λ_ h=>?_) | refine Kx h (λ_ h=>?_) | refine Ali h λ_ h=>?_))
      | ((with_reducible show Tw _ _ _);(first|refine Ark h (λ_ h=>?_) | refine Arl h λ_ h=>?_))
      | ((with_reducible show Wh _ _ _ _ _);refine Jm h λ_ h=>?_)
      | ((with_reducible show N9 _ _ _ _);(first|refine Xt h (λ_ h=>?_) | refine Agb h (λ_ h=>?_) | refine Arm h (λ_ h=>?_) | refine Ve h λ_ h=>?_))
      | ((with_reducible show Is _ _ _);(first|refine Su ?_|refine Sv ?_))
      | ((with_reducible show Aei _ _ _);refine Zn h λ_ h=>?_)
      | ((with_reducible show Aed _ _ _ _);refine Zm h λ_ h=>?_)
      | ((with_reducible show Aee _ _ _);refine Ae4 h λ_ h=>?_)
      | ((with_reducible show Aef _ _ _ _);refine Aqx h λ_ h=>?_)
      | ((with_reducible show Aeg _ _ _ _);refine Akl h λ_ _ _ _ h=>?_)
      | ((with_reducible show Aej _ _);refine I0 h λh=>?_)
      | ((with_reducible show Aek _ _ _ _ _);refine Aqq h λ_ h=>?_)
      | ((with_reducible show Ael _ _ _ _);refine Aqr h λ_ h=>?_))
    | (have h:=Option.some.inj h;subst h;exact rfl)
    | (cases h;(repeat refine⟨rfl,?_⟩);exact trivial)
    | (cases h;done)
):P:=h
section
variable {P:Program} {C:Cfg} {X:Nat->Cd->Hp->Prop} {U:Nat->Nat->Cd->Hp->Prop} {V:Nat->Cd->Hp->Prop} {n:Nat} {e:Cd} {H:Hp} {β:Type} {r:β} {P0 Q:Prop}
variable {t:Bool} {a b:Code} {K:Eff->Nat->Prop} {largs:List AV} {hs:List Bo} {m m':Option β} {S α:Type} {o:Option α} {ra:α->AV} {hs':α->List Bo} {G:α->Prop}
theorem Bj {c:Operand} (h:(bif t then m else m')=some r) (d:t=true->m=some r->wc P C a X U V n e H) (j:t=false->m'=some r->wc P C b X U V n e H) (k:Hd (wc P C (.cond c a b) X U V n e H)->P0:=by exact λq=>Z q.get) (s:ev e c = .val (.bool t):=by exact rfl):P0:=k ⟨Er h d j s⟩
theorem Cl {c:Operand} (h:(bif t then m else m')=some r) (d:t=false->m'=some r->wc P C b X U V n e H) (j:Hd (wc P C (.cond c a b) X U V n e H)->P0:=by exact λq=>Z q.get) (k:ev e c = .val (.bool t):=by exact rfl) (s:t=true->m=some r->wc P C a X U V n e H:=by intro _ h;exact Y):P0:=j ⟨Er h s d k⟩
theorem Bf {E:Type} {step:S->Option (S⊕E)} {s0:S} {J:E->Option β} (h:(Am step s0).bind J=some r) (I:S->List (Nat×AV)) (hv:S->List (Nat×Bo)) (d:∀(s:S) (u:Nat->Value) (K:Nat->Cd->Hp->Prop) (o:S⊕E),step s=some o->(∀x,.inr x=o->J x=some r)->(∀j A k y,.inl j=o->Hq k (I j)->Hw y (Cr H (hv j)) n n->True->K A k y) -> wc P C b K U V n (Ku (Hr b) e u (I s)) (Cr H (hv s))) (B:Hd (wc P C (.loop b) X U V n e H)->P0:=by exact λq=>Z q.get) (hb:∀s,Lb n (I s) (hv s)=true:=by exact λ_=>rfl) (hs:Hq e (I s0):=by (repeat refine⟨rfl,?_⟩);exact trivial) (hh:Hw H (Cr H (hv s0)) n n:=by (repeat refine⟨⟨rfl,rfl⟩,?_⟩);exact trivial):P0:=B ⟨Arn h I hv d hb hs hh⟩
theorem Bl {m:α->Option β} {f:FuncId} {args:List AV} (h:o.bind m=some r) [i:OK o G] (k:∀v,m v=some r->K ⟨ra v,[],[]⟩ n) (d:Hd (F9 P n H f args K)->P0:=by exact λq=>Z q.get) (j:∀v,G v->A6 P f args (ra v):=by exact λ_ h=>h) (s:args.all AV.free=true:=by exact rfl):P0:=d ⟨Sr h k j s⟩
theorem B7 {l:List α} {f:α->AV} {ys:List AV} {i:Int} {m:α->Option β} {K:Nat->AV->Prop} (h:(Ag l i).bind m=some r) (k:∀(n:Nat) (x:α),i=n->l[n]? = some x->m x=some r->K n (f x)) (d:Hd (Wg ys i K)->P0:=by exact λq=>Z q.get) (j:ys=l.map f:=by first|exact rfl|exact Lp _|exact Lq _|exact Jl _):P0:=d ⟨Aqm j h k⟩
theorem Di {m:α->Option β} {f:FuncId} {args:List AV} (l:List Nat) (h:o.bind m=some r) [i:OK o G] (k:∀v,m v=some r->K ⟨ren (Dh n l) (ra v),E5 (Dh n l) 0 hs++Cs (Dh n l) l.length ((hs' v).length-l.length),E5 (Dh n l) 0 (hs' v)⟩ (n+((hs' v).length-l.length))) (d:Hd (F9 P n H f args K)->P0:=by exact λq=>Z q.get) (j:∀v,G v->Bp P f largs hs (ra v) (hs' v):=by exact λ_ h=>h) (s:largs.map (ren (Dh n l))=args:=by exact rfl) (ok:∀v,La n l largs hs (ra v) (hs' v)=true:=by exact λ_=>rfl) (hh:N8 H (E5 (Dh n l) 0 hs):=by (repeat refine⟨rfl,?_⟩);exact trivial):P0:=d ⟨Qx l h k j s ok hh⟩
theorem Ce {m:α->Option β} {f:FuncId} {args:List AV} (l:List Nat) (h:o.bind m=some r) [i:OK o G] (d:Hd (F9 P n H f args K)->P0:=by exact λq=>Z q.get) (j:∀v,G v->Bp P f largs hs (ra v) (hs' v):=by exact λ_ h=>h) (s:largs.map (ren (Dh n l))=args:=by exact rfl) (ok:∀v,La n l largs hs (ra v) (hs' v)=true:=by exact λ_=>rfl) (hh:N8 H (E5 (Dh n l) 0 hs):=by (repeat refine⟨rfl,?_⟩);exact trivial) (k:∀v,m v=some r->K ⟨ren (Dh n l) (ra v),E5 (Dh n l) 0 hs++Cs (Dh n l) l.length ((hs' v).length-l.length),E5 (Dh n l) 0 (hs' v)⟩ (n+((hs' v).length-l.length)):=by
 intro _ h
 exact Y):P0:=d ⟨Qx l h k j s ok hh⟩
theorem Dc {c:Code} {o:Option S} {m:S->Option β} (h:o.bind m=some r) (I:S->List (Nat×AV)) (hv:S->List (Nat×Bo)) (k:∀(s:S) (u:Nat->Value),m s=some r->X n (Ku (Hr c) e u (I s)) (Cr H (hv s))) (hb:∀s,Lb n (I s) (hv s)=true:=by exact λ_=>rfl) (q:∀x,o=some x->∀(K:Nat->Cd->Hp->Prop),(∀s A d j,s=x->Hq d (I s)->Hw j (Cr H (hv s)) n n->K A d j)->(∀y,y=x->m y=some r)->wc P C c K U V n e H:=by
 intro _ h _ _ _
 exact Y):wc P C c X U V n e H:=My h I hv q k hb
theorem ZR {id:Nat} {os:List Oper} (k:Q) (d:Hd (wc P C (.region id os.toArray false) X U V n e H)->P0:=by exact λq=>ZS q.get) (h:Hd Q->Gk (F4 P C.T C.an C.nl os.toArray os n e H [] λn e H _=>X n e H):=by exact λq=>ZO q.get):P0:=d ⟨Gz (h ⟨k⟩)⟩
end
set_option maxRecDepth 10000
theorem A3n {a0 r:List Bt} (h:B6 16 [] a0=some r):A6 prog 188 [Ay 2 Fa a0] (Ay 2 Fa r):=by
 have h:((B6 16 [] a0).bind λo=>some o)=some r:=by rw[h];rfl
 refine pw {T:=Co,an:=(λs=>bif Nat.beq s 5 then .own else .ask),nl:=(λs=>bif Nat.beq s 2 then [(0,2)] else [])} func188 ?_;refine A9 ?_;refine Gz ?_;refine ZO ?_;refine A9 (A9 ?_);refine Rx (λb:Bool=>b=true->a0 = []) (λb=>[(4,Av b)]) (λ_=>[]) (λ_=>rfl) ?_ ?_
 .intro K j;refine Ws 0 ?_;intro v hv;obtain⟨p,c,rfl,hp⟩:=hv 2 (a0.map Fa) rfl;refine Gz ?_;refine nx ?_;refine nx ?_;refine L9 ?_;refine j p.isNone _ _ _ (λe=>?_) ⟨rfl,trivial⟩ trivial;cases p with| none=>simpa using hp rfl| some _=>cases e
 .rintro b _ d;cases b with
  | true=>have d:=d rfl;subst d;have h:some ([]:List Bt)=some r:=(by rw[<-h];rfl);exact Y
  | false=>refine Z ?_;exact Y
theorem A3o {a0:List Bt} {r:List Bt×List Bt} (h:Lc 16 a0=some r):Bp prog 188 [Ay 2 Fa a0] [] (.arr 1 r.2.length 0 r.2.length) [.rows 45 2 (r.1.map Fa),.rows 45 2 (r.2.map Fa)]:=by
 have h:((B6 16 [] a0).bind λo=>some (([]:List Bt),o))=some r:=h;refine aw {T:=Co,an:=(λs=>bif Nat.beq s 5 then .own else bif Nat.beq s 2 then .own else .ask),nl:=(λ_=>[])} false func188 ?_;refine A9 ?_;refine Gz ?_;refine ZO ?_;refine A9 (A9 ?_);refine Rx (λb:Bool=>b=true->a0 = []) (λb=>[(4,Av b)]) (λ_=>[]) (λ_=>rfl) ?_ ?_
 .intro K j;refine Ws 0 ?_;intro v hv;obtain⟨p,c,rfl,hp⟩:=hv 2 (a0.map Fa) rfl;refine Gz ?_;refine nx ?_;refine nx ?_;refine L9 ?_;refine j p.isNone _ _ _ (λe=>?_) ⟨rfl,trivial⟩ ⟨⟨rfl,rfl⟩,trivial⟩;cases p with| none=>simpa using hp rfl| some _=>cases e
 .rintro b _ d;cases b with
  | true=>have d:=d rfl;subst d;have h:some (([]:List Bt),([]:List Bt))=some r:=(by rw[<-h];rfl);cases h;refine ZO ?_;exact Y
  | false=>refine Z ?_;refine ZO ?_;refine Kx h λ_ h=>?_;exact Y
theorem A3p {a0:List Bi} {r:List Bi×List Bi} (h:Lc 40 a0=some r):Bp prog 104 [Ay 3 Gq a0] [] (.arr 1 r.2.length 0 r.2.length) [.rows 100 3 (r.1.map Gq),.rows 100 3 (r.2.map Gq)]:=by
 have h:((B6 40 [] a0).bind λo=>some (([]:List Bi),o))=some r:=h;refine aw {T:=Co,an:=(λs=>bif Nat.beq s 5 then .own else bif Nat.beq s 2 then .own else .ask),nl:=(λ_=>[])} false func104 ?_;refine A9 ?_;refine Gz ?_;refine ZO ?_;refine A9 (A9 ?_);refine Rx (λb:Bool=>b=true->a0 = []) (λb=>[(4,Av b)]) (λ_=>[]) (λ_=>rfl) ?_ ?_
 .intro K j;refine Ws 0 ?_;intro v hv;obtain⟨p,c,rfl,hp⟩:=hv 3 (a0.map Gq) rfl;refine Gz ?_;refine nx ?_;refine nx ?_;refine L9 ?_;refine j p.isNone _ _ _ (λe=>?_) ⟨rfl,trivial⟩ ⟨⟨rfl,rfl⟩,trivial⟩;cases p with| none=>simpa using hp rfl| some _=>cases e
 .rintro b _ d;cases b with
  | true=>have d:=d rfl;subst d;have h:some (([]:List Bi),([]:List Bi))=some r:=(by rw[<-h];rfl);cases h;refine ZO ?_;exact Y
  | false=>refine Z ?_;refine ZO ?_;refine Kx h λ_ h=>?_;exact Y
theorem A3q {a0:List Bh} {r:List Bh×List Bh} (h:Lc 40 a0=some r):Bp prog 110 [Ay 3 Gb a0] [] (.arr 1 r.2.length 0 r.2.length) [.rows 103 3 (r.1.map Gb),.rows 103 3 (r.2.map Gb)]:=by
 have h:((B6 40 [] a0).bind λo=>some (([]:List Bh),o))=some r:=h;refine aw {T:=Co,an:=(λs=>bif Nat.beq s 5 then .own else bif Nat.beq s 2 then .own else .ask),nl:=(λ_=>[])} false func110 ?_;refine A9 ?_;refine Gz ?_;refine ZO ?_;refine A9 (A9 ?_);refine Rx (λb:Bool=>b=true->a0 = []) (λb=>[(4,Av b)]) (λ_=>[]) (λ_=>rfl) ?_ ?_
 .intro K j;refine Ws 0 ?_;intro v hv;obtain⟨p,c,rfl,hp⟩:=hv 3 (a0.map Gb) rfl;refine Gz ?_;refine nx ?_;refine nx ?_;refine L9 ?_;refine j p.isNone _ _ _ (λe=>?_) ⟨rfl,trivial⟩ ⟨⟨rfl,rfl⟩,trivial⟩;cases p with| none=>simpa using hp rfl| some _=>cases e
 .rintro b _ d;cases b with
  | true=>have d:=d rfl;subst d;have h:some (([]:List Bh),([]:List Bh))=some r:=(by rw[<-h];rfl);cases h;refine ZO ?_;exact Y
  | false=>refine Z ?_;refine ZO ?_;refine Kx h λ_ h=>?_;exact Y
theorem A3r {a0:List Ai} {r:List Ai×List Ai} (h:Lc 32 a0=some r):Bp prog 327 [Ay 2 Fy a0] [] (.arr 1 r.2.length 0 r.2.length) [.rows 98 2 (r.1.map Fy),.rows 98 2 (r.2.map Fy)]:=by
 have h:((B6 32 [] a0).bind λo=>some (([]:List Ai),o))=some r:=h;refine aw {T:=Co,an:=(λs=>bif Nat.beq s 5 then .own else bif Nat.beq s 2 then .own else .ask),nl:=(λ_=>[])} false func327 ?_;refine A9 ?_;refine Gz ?_;refine ZO ?_;refine A9 (A9 ?_);refine Rx (λb:Bool=>b=true->a0 = []) (λb=>[(4,Av b)]) (λ_=>[]) (λ_=>rfl) ?_ ?_
 .intro K j;refine Ws 0 ?_;intro v hv;obtain⟨p,c,rfl,hp⟩:=hv 2 (a0.map Fy) rfl;refine Gz ?_;refine nx ?_;refine nx ?_;refine L9 ?_;refine j p.isNone _ _ _ (λe=>?_) ⟨rfl,trivial⟩ ⟨⟨rfl,rfl⟩,trivial⟩;cases p with| none=>simpa using hp rfl| some _=>cases e
 .rintro b _ d;cases b with
  | true=>have d:=d rfl;subst d;have h:some (([]:List Ai),([]:List Ai))=some r:=(by rw[<-h];rfl);cases h;refine ZO ?_;exact Y
  | false=>refine Z ?_;refine ZO ?_;refine Kx h λ_ h=>?_;exact Y
theorem A3s {a0:List Int} {r:List Int×List Int} (h:Lc 8 a0=some r):Bp prog 187 [Ay 1 (O .i64) a0] [] (.arr 1 r.2.length 0 r.2.length) [.rows 3 1 (r.1.map (O .i64)),.rows 3 1 (r.2.map (O .i64))]:=by
 have h:((B6 8 [] a0).bind λo=>some (([]:List Int),o))=some r:=h;refine aw {T:=Co,an:=(λs=>bif Nat.beq s 5 then .own else bif Nat.beq s 2 then .own else .ask),nl:=(λ_=>[])} false func187 ?_;refine A9 ?_;refine Gz ?_;refine ZO ?_;refine A9 (A9 ?_);refine Rx (λb:Bool=>b=true->a0 = []) (λb=>[(4,Av b)]) (λ_=>[]) (λ_=>rfl) ?_ ?_
 .intro K j;refine Ws 0 ?_;intro v hv;obtain⟨p,c,rfl,hp⟩:=hv 1 (a0.map (O .i64)) rfl;refine Gz ?_;refine nx ?_;refine nx ?_;refine L9 ?_;refine j p.isNone _ _ _ (λe=>?_) ⟨rfl,trivial⟩ ⟨⟨rfl,rfl⟩,trivial⟩;cases p with| none=>simpa using hp rfl| some _=>cases e
 .rintro b _ d;cases b with
  | true=>have d:=d rfl;subst d;have h:some (([]:List Int),([]:List Int))=some r:=(by rw[<-h];rfl);cases h;refine ZO ?_;exact Y
  | false=>refine Z ?_;refine ZO ?_;refine Kx h λ_ h=>?_;exact Y
end Go.Ab
namespace Go.Ab
open Go Go.Proofs Go.Shelf Go.Proofs.Tryz
set_option maxRecDepth 100000
set_option linter.unusedVariables false
variable {F σ:A8} {ι:Ch} {H:Hp} {w:World}
def A3t:Ren:={f:=λx=>match x with|189=>72|125=>131|257=>130|128=>202|129=>203|294=>193|295=>194|296=>195|297=>196|298=>197|299=>198|216=>199|300=>200|301=>201|328=>265|329=>266|330=>267|331=>268|332=>269|215=>232|343=>313|n=>n,t:=λx=>match x with|28=>42|3=>3|46=>203|0=>0|51=>92|53=>91|4=>4|183=>277|182=>276|131=>189|5=>5|9=>9|218=>342|222=>111|228=>390|229=>391|n=>n,g:=λn=>n}
theorem A3u:Lays.n189 prog A3t:=by
 constructor;all_goals first|kernel_rfl | (intro w;kernel_rfl) | constructor
 all_goals first|kernel_rfl | (intro w;kernel_rfl)
theorem C8.up {w':World} {x:Nat} (h:C8 σ ι H F w x) (hk:∀(b:Nat) (o:Obj),w.heap[b]? = some o->w'.heap[b]? = some o):C8 σ ι H F w' x:=by
 unfold C8 at h ⊢;cases hx:H x with
 | none=>rw[hx]at h;exact h
 | dead=>trivial
 | cells E cs=>rw[hx]at h;obtain⟨b,C,h1,h2,h3,d,f⟩:=h;exact⟨b,C,h1,h2,h3,hk _ _ d,f⟩
 | rows E sz xs=>
  rw[hx]at h;obtain⟨h0,h1,h2⟩:=h;refine⟨h0,h1,?_⟩;rcases h2 with h2|⟨b,c,C,l,k,j,i,g⟩
  .exact .inl h2
  .exact .inr ⟨b,c,C,l,k,j,hk _ _ i,g⟩
 | map es=>rw[hx]at h;obtain⟨b,M,t,h1,h2,h3,d,f⟩:=h;exact⟨b,M,t,h1,h2,h3,hk _ _ d,f⟩
theorem St.growG {W:World} (s:St σ ι H F W w) (k:Nat) (os:Array Obj):St σ ι H F W (Sort.grow (Sort.ahead w k) os):=by
 have hk:∀(b:Nat) (o:Obj),w.heap[b]? = some o->(Sort.grow (Sort.ahead w k) os).heap[b]? = some o:=by intro b o h;have c:=(Array.getElem?_eq_some_iff.1 h).1;show (w.heap++os)[b]? = _;rw[Array.getElem?_append_left c];exact h
 exact⟨λb o h=>hk b o (s.sto b o h),λb o h=>⟨hk b o (s.fra b o h).1,(s.fra b o h).2⟩,λh=>(s.obj h).up hk,s.inj,s.os,s.tape,s.output,s.glo,Nat.le_trans s.drw (Nat.le_add_right _ _)⟩
theorem Aro {α:Type} [Inhabited α] (enc:α->Value) (w:World) (b:Nat) (d:Array α) (C:Array Value) (E:TypeId) (h:w.heap[b]? = some (.cells C E (0,0))):Sort.putRow enc w b 0 d=w.setRow b (Sort.putCells enc 0 d C):=by
 have c:(Sort.putRow enc w b 0 d).heap=(w.setRow b (Sort.putCells enc 0 d C)).heap:=by
  apply Array.ext_getElem?;intro i;simp only[Sort.putRow,Sort.mapBlock,World.setRow,Array.getElem?_modify];split
  .rename_i e;subst e;rw[h];simp[Sort.onCells]
  .rfl
 unfold Sort.putRow Sort.mapBlock World.setRow at c ⊢;simp only at c;rw[c]
theorem A3v {b r:List Int} (h:Aqj b=some r) (M:b≠[]):Bp prog 72 [.arr 0 b.length 0 b.length] [.rows 3 1 (map (O .i64) b)] (.tup []) [.rows 3 1 (map (O .i64) r)]:=by
 cases h
 .skip;refine⟨⟨_,func72,κ,κ⟩,λσ F W w ι vs s J=>?_⟩;obtain⟨v,rfl,hv⟩:=Vd J;have hh:hp [.rows 3 1 (map (O .i64) b)] 0 = .rows 3 1 (map (O .i64) b):=rfl;have l:=hv.arr_inv hh ψ;have d:=s.obj 0;unfold C8 at d;rw[hh]at d;obtain⟨_,G,d⟩:=d;rw[length_map]at G;rcases d with⟨_,E⟩|⟨g,q,D,hg,g1,g2,g3,g4,g5,g6⟩
  .exact (M (by simpa using E)).elim
  .rw[length_map]at g5;unfold H6 at l;rw[hg]at l;simp only[Nat.zero_mul,Nat.zero_add,Nat.sub_zero]at l;obtain⟨ht,B⟩:=l;subst B;have k:∀(j:Nat) (x:Int),b[j]? = some x->D[j]? = some (Value.int .i64 x):=(by intro j x hx;obtain⟨X,q1,Z,Y⟩:=g6;have A:(map (O .i64) b)[j]? = some (O .i64 x):=(by rw[getElem?_map,hx];rfl);have N:j<(map (O .i64) b).length:=(List.getElem?_eq_some_iff.1 A).1;have V:=Y j 0 N ω;have U:=(Z j _ 0 _ A rfl).1;have:X j 0=Value.int .i64 x:=(by generalize X j 0=z at U;cases U;rfl);rw[this]at V;simpa using V);have hH:Sort.Holds (Value.int .i64) w g 0 b.toArray:=by
    intro j hj;have a1:j<b.length:=(by simpa using hj);have hx:b[j]? = some b[j]:=getElem?_eq_getElem a1;have hD:=k j _ hx;have e1:b.toArray[j]! = b[j]:=(by rw[getElem!_pos b.toArray j hj];simp);rw[e1];refine⟨?_,?_⟩
    .rw[Nat.zero_add,K8 g3];exact hD
    .simp[World.frozen?,g3]
   have call:=Any.slices_Sort_int A3u g 0 q b w hH (Array.getElem?_eq_some_iff.1 g3).1 ω;refine call.mono ?_;rintro e w' ⟨rfl,n,os,rfl⟩;generalize hr:b.mergeSort (λx y=>decide (x<=y))=r;have I:r.length=b.length:=(by rw[<-hr];exact length_mergeSort b);have L:(Sort.putCells (Value.int .i64) 0 r.toArray D).size=q*1:=(by unfold Sort.putCells;rw[Array.size_mapIdx];exact g4);obtain⟨s',le⟩:=s.setRows 0 3 1 _ (map (O .i64) r) hh g q hg (by simp[I]) (Sort.putCells (Value.int .i64) 0 r.toArray D) L (by
    refine⟨λi _=>match r[i]? with|some z=>.int .i64 z|none=>.bool false,?_,?_,?_⟩
    .intro i x hx;rw[getElem?_map]at hx;obtain⟨z,hz,rfl⟩:=Option.map_eq_some_iff.1 hx;rfl
    .intro i x j c hx f;rw[getElem?_map]at hx;obtain⟨z,hz,rfl⟩:=Option.map_eq_some_iff.1 hx;have f:([O .i64 z]:List AV)[j]? = some c:=f
     match j with| 0=>cases f;simp only[hz];exact⟨.val _,rfl⟩| j+1=>simp at f
    .intro i j hi hj;have R:j=0:=ω;subst R;have u:i<r.length:=(by simpa using hi);have S:i<D.size:=(by rw[g4];omega);simp only[Nat.mul_one,Nat.add_zero,getElem?_eq_getElem u];unfold Sort.putCells;rw[Array.getElem?_mapIdx,Array.getElem?_eq_getElem S];simp only[Option.map_some,Nat.zero_le,true_and,Nat.zero_add,size_toArray,u,if_true,Nat.sub_zero];congr 2;rw[getElem!_pos r.toArray i (by simpa using u)];simp)
   have eH:A3 (hp [.rows 3 1 (map (O .i64) b)]) 0 (.rows 3 1 (map (O .i64) r))=hp [.rows 3 1 (map (O .i64) r)]:=by
    funext i
    match i with| 0=>rfl| i+1=>rfl
   rw[eH]at le s';have eW:Sort.grow (Sort.putRow (Value.int .i64) (Sort.ahead w n) g 0 r.toArray) os=Sort.grow (Sort.ahead (w.setRow g (Sort.putCells (Value.int .i64) 0 r.toArray D)) n) os:=(by rw[Aro (Value.int .i64) (Sort.ahead w n) g r.toArray D 3 g3];rfl);rw[eW];exact⟨_,σ,ι,rfl,le,s'.growG n os,.tup _ _ rfl (λi c v h1 _=>by cases h1)⟩
end Go.Ab
namespace Go.Ab
open Go Go.Proofs Go.Shelf Go.Sort Go.Proofs.Tryz
set_option maxRecDepth 100000
set_option linter.unusedVariables false
variable {σ:A8} {g:Nat} {α:Type} {v:Value} {b l r:List α} {eA:α->AV} {cmp:α->α->Option Int}
theorem A3w (h:Fm v=true):v.oneCell'=true:=by cases v <;> first|rfl|cases h
theorem A3x {ι:Ch} {H:Hp} {f:FuncId} (h:Conc σ ι H (.fn f []) v):v = .func (.func f) #[] #[]:=by cases h with| cc h=>cases h| fn _ _ vs b _=>have:vs = #[]:=Array.size_eq_zero_iff.1 (by simpa using b);rw[this]
def Arp (σ:A8) (eA:α->AV) (sz:Nat) (S:List α) (x:α) (c:List Value):Prop := x∈S/\(eA x).cells.length=sz/\c.length=sz/\∀(j:Nat) (a:AV) (v:Value),(eA x).cells[j]? = some a->c[j]? = some v->CC σ a v/\Fm v=true
abbrev Pt {α:Type} (σ:A8) (eA:α->AV) (sz:Nat) (S:List α):Type:={p:α×List Value // Arp σ eA sz S p.1 p.2}
theorem A3y {W w':World} (g:∀b o,W.heap[b]? = some o->σ b=some o) (s:St σ ι0 H0 (λ_=>none) W w'):∃q f,w'=grow (W.drewN q) f:=by
 have u:∀b o,W.heap[b]? = some o->w'.heap[b]? = some o:=λb o h=>s.sto b o (g b o h);have j:W.heap.size<=w'.heap.size:=by
  rcases Nat.eq_zero_or_pos W.heap.size with h|h
  .omega
  .have:=u (W.heap.size-1) _ (Array.getElem?_eq_getElem ω);have:=(Array.getElem?_eq_some_iff.1 this).1;omega
 refine⟨w'.drawn-W.drawn,w'.heap.extract W.heap.size w'.heap.size,?_⟩;have c:w'.heap=W.heap++w'.heap.extract W.heap.size w'.heap.size:=by
  apply Array.ext_getElem?;intro i;by_cases hi:i<W.heap.size
  .rw[Array.getElem?_append_left hi,Array.getElem?_eq_getElem hi];exact u i _ (Array.getElem?_eq_getElem hi)
  .rw[Array.getElem?_append_right ω];by_cases L:i<w'.heap.size
   .rw[Array.getElem?_eq_getElem L,Array.getElem?_eq_getElem ζ];simp only[Array.getElem_extract];congr 2;omega
   .rw[Array.getElem?_eq_none ω,Array.getElem?_eq_none ζ]
 have y:=s.os;have A:=s.tape;have B:=s.output;have M:=s.drw;cases w' with| mk D I k os d=>simp only at y A B M c;unfold grow World.drewN;simp only[World.mk.injEq];exact⟨c,A,ω,y,B⟩
theorem Alk {ρ:Ren} {E:TypeId} {sz f:Nat} (L:SlLaysF0.n6 prog ρ) (hf:ρ.f 6=f) (a6:Y9 prog f) (aE:∀w,(isAgg (ρ.t 24)).run prog w = .ok true w) (zE:∀w,(Go.sizeOf (ρ.t 24)).run prog w = .ok sz w) (eg:∀args w,(callFunc g args).run prog w = .ok (.enter g args) w) (ar:∀x y n,cmp x y=some n->A6 prog g [eA x,eA y] (O .i64 n)) (ax:∀x,∃cs,eA x = .agg cs) (h:∃o,Jt cmp l o) (ah:l≠[]) : N7 prog f [.arr 0 l.length 0 l.length,.fn g []] [.rows E sz (l.map eA)] (λa b6=>∃o,Jt cmp l o/\a = .tup []/\b6 = [.rows E sz (o.map eA)]):=by
 obtain⟨_,cf,a4,au,_⟩:=h;refine⟨a6,λσ F W w ι vs s aq=>?_⟩;obtain⟨v,v2,rfl,hv,b3⟩:=Alg aq;obtain rfl:=A3x b3;have hh:hp [.rows E sz (l.map eA)] 0 = .rows E sz (l.map eA):=rfl;have J:=hv.arr_inv hh ψ;have a3:=s.obj 0;unfold C8 at a3;rw[hh]at a3;obtain⟨N,aj,a3⟩:=a3;rw[length_map]at aj;rcases a3 with⟨_,af⟩|⟨b,S,D,hb,g1,g2,g3,g4,g5,g6⟩
 .exact (ah (by simpa using af)).elim
 rw[length_map]at g5;unfold H6 at J;rw[hb]at J;simp only[Nat.zero_mul,Nat.sub_zero]at J;obtain⟨ht,aa⟩:=J;subst aa;obtain⟨gg,q1,q2,q3⟩:=g6;have a8:∀(i:Nat) (x:α),l[i]? = some x->(l.map eA)[i]? = some (eA x):=λi x hx=>by rw[getElem?_map,hx];rfl
 have Z:∀(i:Nat) (hi:i<l.length),Arp σ eA sz l l[i] ((range sz).map (gg i)):=by intro i hi;have hx:l[i]? = some l[i]:=getElem?_eq_getElem hi;refine⟨getElem_mem hi,q1 i _ (a8 i _ hx),ψ,λj a v ha hv=>?_⟩;rw[getElem?_map,Option.map_eq_some_iff]at hv;obtain⟨k,hk,rfl⟩:=hv;have b8:k=j:=(by have:=(List.getElem?_eq_some_iff.1 hk).2;simpa using this.symm);subst b8;exact q2 i _ k a (a8 i _ hx) ha
 have a5:0<l.length:=length_pos_iff.2 ah;let d:Array (Pt σ eA sz l):=Array.ofFn λi:Fin l.length=>⟨(l[i.1],(range sz).map (gg i.1)),Z i.1 i.2⟩
 haveI:Inhabited (Pt σ eA sz l):=⟨⟨(l[0],(range sz).map (gg 0)),Z 0 a5⟩⟩;have A:d.size=l.length:=by simp[d]
 have ba:∀i (hi:i<l.length),d[i]! = ⟨(l[i],(range sz).map (gg i)),Z i hi⟩:=λi hi=>by rw[getElem!_pos d i (by rw[A];exact hi)];simp[d]
 let a2:Pt σ eA sz l->List Value:=λp=>p.1.2
 have hk:∀x:Pt σ eA sz l,(a2 x).length=sz:=λx=>x.2.2.2.1;have h1:∀x:Pt σ eA sz l,∀v∈a2 x,v.oneCell'=true:=by intro x v hv;obtain⟨j,hj⟩:=getElem?_of_mem hv;have q:=(List.getElem?_eq_some_iff.1 hj).1;rw[hk x]at q;have ha:(eA x.1.1).cells[j]? = some ((eA x.1.1).cells[j]'(by rw[x.2.2.1];exact q)):=getElem?_eq_getElem _;exact A3w (x.2.2.2.2 j _ v ha hj).2
 let a7:Pt σ eA sz l->Pt σ eA sz l->Int:=λx y=>cf x.1.1 y.1.1
 have hO:SWO (ltOf a7):=by
  constructor
  .intro x;exact decide_eq_false (a4.irr x.1.1)
  .intro x y z V U;exact decide_eq_true (a4.trs _ _ _ (of_decide_eq_true V) (of_decide_eq_true U))
  .intro x y z V U;exact decide_eq_false (a4.ntr _ _ _ (of_decide_eq_false V) (of_decide_eq_false U))
 have hH:HoldsK a2 sz w b 0 d:=by
  intro t X;rw[size_flatK,A]at X;have ac:t / sz<l.length:=Nat.div_lt_of_lt_mul (by rw[Nat.mul_comm];exact X);have ab:t % sz<sz:=Nat.mod_lt _ N;rw[get_flatK _ _ _ _ (by rw[A];exact X),ba _ ac];have e:=q3 (t / sz) (t % sz) (by rw[length_map];exact ac) ab;rw[show t / sz*sz+t % sz=t by rw[Nat.mul_comm];exact Nat.div_add_mod t sz]at e;refine⟨?_,?_⟩
  .rw[Nat.zero_add,K8 g3,e];show some _=some (id _);congr 1;show gg _ _=((range sz).map (gg (t / sz)))[t % sz]!;rw[getElem!_pos _ _ (by simpa using ab)];simp
  .simp[World.frozen?,g3]
 have a9:b<w.heap.size:=(Array.getElem?_eq_some_iff.1 g3).1;have hC:CmpLays prog g #[] a2 sz a7 b 0 d.size w:=by
  intro m os dk hs x y;generalize az:sortWorldK a2 sz w b 0 m dk os=M;have am:∀b' o,σ b'=some o->M.heap[b']? = some o:=(by intro b' o ho;have ag:b≠b':=(by rintro rfl;rw[g1]at ho;cases ho);have e:=s.sto b' o ho;have q:=(Array.getElem?_eq_some_iff.1 e).1;rw[<-az];show ((w.heap.modify b _)++os)[b']? = _;rw[Array.getElem?_append_left (by simpa using q),Array.getElem?_modify,if_neg ag];exact e);have ao:=au x.1.1 x.2.1 y.1.1 y.2.1;have hp:=ar _ _ _ ao;have s1:St (λb=>M.heap[b]?) ι0 H0 (λ_=>none) M M:=⟨λ_ _ e=>e,(λ_ _ e=>by cases e),λ_=>rfl,(λ_ _ _ hl=>by cases hl),rfl,rfl,rfl,s.glo.mono am,Nat.le_refl _⟩;have av:∀z:Pt σ eA sz l,Conc (λb=>M.heap[b]?) ι0 H0 (eA z.1.1) (.agg (a2 z).toArray):=by
   intro z;obtain⟨cs,ap⟩:=ax z.1.1;have B:(eA z.1.1).cells=cs:=(by rw[ap];rfl);rw[ap];refine .cc (.agg _ _ ?_ λi c v hc hv=>?_)
   .rw[<-B,z.2.2.1];simp[hk z]
   .rw[<-B]at hc;exact (z.2.2.2.2 i c v hc (by simpa using hv)).1.mono am
  refine (hp.2 (λb=>M.heap[b]?) (λ_=>none) M M _ s1 ⟨rfl,?_⟩).mono ?_
  .intro i a v ha hv
   match i,ha,hv with| 0,ha,hv=>cases ha;cases hv;exact av x| 1,ha,hv=>cases ha;cases hv;exact av y| n+2,ha,hv=>simp at ha
  .rintro e w' ⟨v,σ',rfl,ak,b4,hc⟩;refine⟨?_,?_⟩
   .cases hc with| cc h=>cases h;rfl
   .exact A3y (σ:=σ') (λb o ho=>ak b o ho) b4
 have call:=AnyQ.slices_SortFunc L sz aE zE a2 hk h1 a7 hO g #[] b 0 S d w eg hC hH a9 (by rw[A];omega);rw[hf,A]at call;refine call.mono ?_;rintro e w' ⟨rfl,u,n,os,b7,b5,rfl⟩;obtain⟨p1,p2,p3⟩:=b7;have I:u.size=l.length:=by rw[p1,A]
 have G:∀(a:Array (Pt σ eA sz l)),a.size=l.length->(a.extract 0 l.length).toList=a.toList:=λa ha=>by rw[<-ha];simp
 rw[G u I,G d A]at p3;have ai:d.toList.map (λp=>p.1.1)=l:=by
  apply ext_getElem
  .simp[A]
  .intro i bf be;simp[d]
 have Y:(u.toList.map λp=>p.1.1).Perm l:=by have:=p3.map λp:Pt σ eA sz l=>p.1.1;rwa [ai]at this
 have hS:(u.toList.map λp=>p.1.1).Pairwise λx y=>¬cf y x<0:=by rw[pairwise_iff_getElem];intro i j hi hj b9;simp only[length_map,Array.length_toList]at hi hj;have:=b5 i j (Nat.zero_le _) b9 ω;rw[getElem!_pos u i hi,getElem!_pos u j hj]at this;have:=of_decide_eq_false this;simpa only[getElem_map,Array.getElem_toList] using this
 obtain⟨r,R⟩:∃r,u.toList.map (λp=>p.1.1)=r:=⟨_,rfl⟩;rw[R]at Y hS;have ae:r.length=l.length:=Y.length_eq;have bb:(flatK a2 sz u).size=l.length*sz:=by rw[size_flatK,I]
 have ay:(Sort.putCells id 0 (flatK a2 sz u) D).size=S*sz:=by unfold Sort.putCells;rw[Array.size_mapIdx];exact g4
 have ad:∀(i:Nat) (x:α),r[i]? = some x->i<u.size/\(u[i]!).1.1=x:=by intro i x hx;rw[<-R,getElem?_map,Option.map_eq_some_iff]at hx;obtain⟨p,hp,rfl⟩:=hx;have q:=(List.getElem?_eq_some_iff.1 hp).1;simp only[Array.length_toList]at q;refine⟨q,?_⟩;rw[getElem!_pos u i q];have:=(List.getElem?_eq_some_iff.1 hp).2;simp only[Array.getElem_toList]at this;rw[this]
 obtain⟨s',le⟩:=s.setRows 0 E sz _ (r.map eA) hh b S hb (by simp[ae]) (Sort.putCells id 0 (flatK a2 sz u) D) ay (by
  refine⟨λi j=>(a2 u[i]!)[j]!,?_,?_,?_⟩
  .intro i x hx;rw[getElem?_map]at hx;obtain⟨z,hz,rfl⟩:=Option.map_eq_some_iff.1 hx;obtain⟨e1,e2⟩:=ad i z hz;rw[<-e2];exact (u[i]!).2.2.1
  .intro i x j c hx a1;rw[getElem?_map]at hx;obtain⟨z,hz,rfl⟩:=Option.map_eq_some_iff.1 hx;obtain⟨e1,e2⟩:=ad i z hz;rw[<-e2]at a1;have q:=(List.getElem?_eq_some_iff.1 a1).1;rw[(u[i]!).2.2.1,<-(u[i]!).2.2.2.1]at q;have hg:(u[i]!).1.2[j]? = some ((a2 u[i]!)[j]!):=(by rw[getElem?_eq_getElem q,getElem!_pos (a2 u[i]!) j q]);exact (u[i]!).2.2.2.2 j c _ a1 hg
  .intro i j hi hj;rw[length_map,ae]at hi;have q:i*sz+j<l.length*sz:=(by have:=Nat.mul_le_mul_right sz (show i+1<=l.length from hi);rw[Nat.add_mul,Nat.one_mul]at this;omega);have hD:i*sz+j<D.size:=(by rw[g4];exact Nat.lt_of_lt_of_le q (Nat.mul_le_mul_right sz g5));unfold Sort.putCells;rw[Array.getElem?_mapIdx,Array.getElem?_eq_getElem hD];simp only[Option.map_some,Nat.zero_le,true_and,Nat.zero_add,bb,q,if_true,Nat.sub_zero];congr 1;show id ((flatK a2 sz u)[i*sz+j]!)=_;rw[get_flatK _ _ _ _ (by rw[I];exact q)];have e1:(i*sz+j) / sz=i:=(by rw[Nat.mul_comm,Nat.mul_add_div N,Nat.div_eq_of_lt hj,Nat.add_zero]);have e2:(i*sz+j) % sz=j:=(by rw[Nat.mul_comm,Nat.mul_add_mod,Nat.mod_eq_of_lt hj]);rw[e1,e2];rfl);have eH:A3 (hp [.rows E sz (l.map eA)]) 0 (.rows E sz (r.map eA))=hp [.rows E sz (r.map eA)]:=by
  funext i
  match i with| 0=>rfl| i+1=>rfl
 rw[eH]at le s';have eW:sortWorldK a2 sz w b 0 n u os=Sort.grow (Sort.ahead (w.setRow b (Sort.putCells id 0 (flatK a2 sz u) D)) n) os:=by unfold sortWorldK putRowK;rw[Aro id (Sort.ahead w n) b (flatK a2 sz u) D E g3];rfl
 rw[eW];exact⟨_,_,_,σ,ι,⟨r,⟨cf,a4,au,Y,hS⟩,rfl,rfl⟩,rfl,le,s'.growG n os,.tup _ _ rfl (λi c v h1 _=>by cases h1)⟩
theorem Qi.only {o:List α} (h:Qi cmp l r) (h':Jt cmp l o):o=r:=by
 obtain⟨cf,d,g,b,k⟩:=h;obtain⟨z,lg,f,hp,q⟩:=h';have e:∀x∈l,∀y∈l,z x y=cf x y:=λx hx y hy=>Option.some.inj ((f x hx y hy).symm.trans (g x hx y hy));have s:o.Pairwise λx y=>cf x y<0\/cf y x<0:=((hp.trans b.symm).pairwise_iff λ{x y} h=>h.symm).2 (k.imp λh=>.inl h);have u:o.Pairwise λx y=>cf x y<0:=by
  rw[pairwise_iff_getElem]at s q ⊢;intro i j hi A c;rcases s i j hi A c with h|h
  .exact h
  .have:=q i j hi A c;rw[e _ (hp.subset (getElem_mem A)) _ (hp.subset (getElem_mem hi))]at this;exact (this h).elim
 exact Perm.eq_of_pairwise (le:=λx y=>cf x y<0) (λx y _ _ h1 h2=>(d.irr x (d.trs _ _ _ h1 h2)).elim) u k (hp.trans b.symm)
theorem Qi.toU (h:Qi cmp l r):Jt cmp l r:=by obtain⟨cf,d,c,b,f⟩:=h;exact⟨cf,d,c,b,f.imp λ{x y} h h2=>d.irr x (d.trs _ _ _ h h2)⟩
def A3z:Ren:={f:=λx=>match x with|6=>117|15=>131|14=>184|28=>202|29=>203|20=>255|21=>256|22=>257|23=>258|24=>259|25=>260|26=>261|27=>262|46=>302|47=>266|48=>267|49=>303|50=>304|57=>338|n=>n,t:=λx=>match x with|22=>28|24=>83|25=>191|3=>3|39=>203|0=>0|53=>92|55=>91|4=>4|46=>277|45=>276|50=>189|5=>5|9=>9|66=>342|70=>111|76=>390|77=>391|n=>n,g:=λn=>n}
theorem A30:SlLaysF0.n6 prog A3z:=by
 constructor
 case f6=>exact Exists.intro "slices.SortFunc[[]amortcost/api.Term,amortcost/api.Term]" ⟨κ,κ⟩
 case f14=>exact Exists.intro "slices.pdqsortCmpFunc[amortcost/api.Term]" ⟨κ,κ⟩
 case f20=>exact Exists.intro "slices.insertionSortCmpFunc[amortcost/api.Term]" ⟨κ,κ⟩
 case f21=>exact Exists.intro "slices.heapSortCmpFunc[amortcost/api.Term]" ⟨κ,κ⟩
 case f22=>exact Exists.intro "slices.breakPatternsCmpFunc[amortcost/api.Term]" ⟨κ,κ⟩
 case f23=>exact Exists.intro "slices.choosePivotCmpFunc[amortcost/api.Term]" ⟨κ,κ⟩
 case f24=>exact Exists.intro "slices.reverseRangeCmpFunc[amortcost/api.Term]" ⟨κ,κ⟩
 case f25=>exact Exists.intro "slices.partialInsertionSortCmpFunc[amortcost/api.Term]" ⟨κ,κ⟩
 case f26=>exact Exists.intro "slices.partitionEqualCmpFunc[amortcost/api.Term]" ⟨κ,κ⟩
 case f27=>exact Exists.intro "slices.partitionCmpFunc[amortcost/api.Term]" ⟨κ,κ⟩
 case f46=>exact Exists.intro "slices.siftDownCmpFunc[amortcost/api.Term]" ⟨κ,κ⟩
 case f49=>exact Exists.intro "slices.medianAdjacentCmpFunc[amortcost/api.Term]" ⟨κ,κ⟩
 case f50=>exact Exists.intro "slices.medianCmpFunc[amortcost/api.Term]" ⟨κ,κ⟩
 case f57=>exact Exists.intro "slices.order2CmpFunc[amortcost/api.Term]" ⟨κ,κ⟩
 all_goals first|kernel_rfl | (intro w;kernel_rfl)
theorem A31 (k:∀args w,(callFunc g args).run prog w = .ok (.enter g args) w) (c:∀x y n,cmp x y=some n->A6 prog g [eA x,eA y] (O .i64 n)) (f:∀x,∃cs,eA x = .agg cs) (h:∃o,Jt cmp b o) (j:b≠[]) : N7 prog 117 [.arr 0 b.length 0 b.length,.fn g []] [.rows 83 5 (b.map eA)] (λa i=>∃o,Jt cmp b o/\a = .tup []/\i = [.rows 83 5 (o.map eA)]) := Alk A30 rfl ⟨_,func117,κ,κ⟩ (by intro w;kernel_rfl) (by intro w;kernel_rfl) k c f h j
theorem A32 (j:∀args w,(callFunc g args).run prog w = .ok (.enter g args) w) (b:∀x y n,cmp x y=some n->A6 prog g [eA x,eA y] (O .i64 n)) (c:∀x,∃cs,eA x = .agg cs) {f:List α} (h:Pb cmp f=some r) (i:f≠[]) : Bp prog 117 [.arr 0 f.length 0 f.length,.fn g []] [.rows 83 5 (f.map eA)] (.tup []) [.rows 83 5 (r.map eA)] := ((A31 j b c ⟨r,(Wt h).toU⟩ i).one λ_ _ ⟨o,d,k,q⟩=>⟨k,by rw[q,(Wt h).only d]⟩)
def A33:Ren:={f:=λx=>match x with|6=>189|15=>131|14=>264|28=>202|29=>203|20=>305|21=>306|22=>307|23=>308|24=>309|25=>310|26=>311|27=>312|46=>339|47=>266|48=>267|49=>340|50=>341|57=>355|n=>n,t:=λx=>match x with|22=>29|24=>45|25=>262|3=>3|39=>203|0=>0|53=>92|55=>91|4=>4|46=>277|45=>276|50=>189|5=>5|9=>9|66=>342|70=>111|76=>390|77=>391|n=>n,g:=λn=>n}
theorem A34:SlLaysF0.n6 prog A33:=by
 constructor
 case f6=>exact Exists.intro "slices.SortFunc[[]amortcost/api.LinTerm,amortcost/api.LinTerm]" ⟨κ,κ⟩
 case f14=>exact Exists.intro "slices.pdqsortCmpFunc[amortcost/api.LinTerm]" ⟨κ,κ⟩
 case f20=>exact Exists.intro "slices.insertionSortCmpFunc[amortcost/api.LinTerm]" ⟨κ,κ⟩
 case f21=>exact Exists.intro "slices.heapSortCmpFunc[amortcost/api.LinTerm]" ⟨κ,κ⟩
 case f22=>exact Exists.intro "slices.breakPatternsCmpFunc[amortcost/api.LinTerm]" ⟨κ,κ⟩
 case f23=>exact Exists.intro "slices.choosePivotCmpFunc[amortcost/api.LinTerm]" ⟨κ,κ⟩
 case f24=>exact Exists.intro "slices.reverseRangeCmpFunc[amortcost/api.LinTerm]" ⟨κ,κ⟩
 case f25=>exact Exists.intro "slices.partialInsertionSortCmpFunc[amortcost/api.LinTerm]" ⟨κ,κ⟩
 case f26=>exact Exists.intro "slices.partitionEqualCmpFunc[amortcost/api.LinTerm]" ⟨κ,κ⟩
 case f27=>exact Exists.intro "slices.partitionCmpFunc[amortcost/api.LinTerm]" ⟨κ,κ⟩
 case f46=>exact Exists.intro "slices.siftDownCmpFunc[amortcost/api.LinTerm]" ⟨κ,κ⟩
 case f49=>exact Exists.intro "slices.medianAdjacentCmpFunc[amortcost/api.LinTerm]" ⟨κ,κ⟩
 case f50=>exact Exists.intro "slices.medianCmpFunc[amortcost/api.LinTerm]" ⟨κ,κ⟩
 case f57=>exact Exists.intro "slices.order2CmpFunc[amortcost/api.LinTerm]" ⟨κ,κ⟩
 all_goals first|kernel_rfl | (intro w;kernel_rfl)
theorem Arq (k:∀args w,(callFunc g args).run prog w = .ok (.enter g args) w) (c:∀x y n,cmp x y=some n->A6 prog g [eA x,eA y] (O .i64 n)) (f:∀x,∃cs,eA x = .agg cs) (h:∃o,Jt cmp b o) (j:b≠[]) : N7 prog 189 [.arr 0 b.length 0 b.length,.fn g []] [.rows 45 2 (b.map eA)] (λa i=>∃o,Jt cmp b o/\a = .tup []/\i = [.rows 45 2 (o.map eA)]) := Alk A34 rfl ⟨_,func189,κ,κ⟩ (by intro w;kernel_rfl) (by intro w;kernel_rfl) k c f h j
theorem A35 (j:∀args w,(callFunc g args).run prog w = .ok (.enter g args) w) (b:∀x y n,cmp x y=some n->A6 prog g [eA x,eA y] (O .i64 n)) (c:∀x,∃cs,eA x = .agg cs) {f:List α} (h:Pb cmp f=some r) (i:f≠[]) : Bp prog 189 [.arr 0 f.length 0 f.length,.fn g []] [.rows 45 2 (f.map eA)] (.tup []) [.rows 45 2 (r.map eA)] := ((Arq j b c ⟨r,(Wt h).toU⟩ i).one λ_ _ ⟨o,d,k,q⟩=>⟨k,by rw[q,(Wt h).only d]⟩)
def A36:Ren:={f:=λx=>match x with|6=>296|15=>131|14=>331|28=>202|29=>203|20=>343|21=>344|22=>345|23=>346|24=>347|25=>348|26=>349|27=>350|46=>356|47=>266|48=>267|49=>357|50=>358|57=>361|n=>n,t:=λx=>match x with|22=>174|24=>178|25=>380|3=>3|39=>203|0=>0|53=>92|55=>91|4=>4|46=>277|45=>276|50=>189|5=>5|9=>9|66=>342|70=>111|76=>390|77=>391|n=>n,g:=λn=>n}
theorem A37:SlLaysF0.n6 prog A36:=by
 constructor
 case f6=>exact Exists.intro "slices.SortFunc[[]amortcost/api.Weighted,amortcost/api.Weighted]" ⟨κ,κ⟩
 case f14=>exact Exists.intro "slices.pdqsortCmpFunc[amortcost/api.Weighted]" ⟨κ,κ⟩
 case f20=>exact Exists.intro "slices.insertionSortCmpFunc[amortcost/api.Weighted]" ⟨κ,κ⟩
 case f21=>exact Exists.intro "slices.heapSortCmpFunc[amortcost/api.Weighted]" ⟨κ,κ⟩
 case f22=>exact Exists.intro "slices.breakPatternsCmpFunc[amortcost/api.Weighted]" ⟨κ,κ⟩
 case f23=>exact Exists.intro "slices.choosePivotCmpFunc[amortcost/api.Weighted]" ⟨κ,κ⟩
 case f24=>exact Exists.intro "slices.reverseRangeCmpFunc[amortcost/api.Weighted]" ⟨κ,κ⟩
 case f25=>exact Exists.intro "slices.partialInsertionSortCmpFunc[amortcost/api.Weighted]" ⟨κ,κ⟩
 case f26=>exact Exists.intro "slices.partitionEqualCmpFunc[amortcost/api.Weighted]" ⟨κ,κ⟩
 case f27=>exact Exists.intro "slices.partitionCmpFunc[amortcost/api.Weighted]" ⟨κ,κ⟩
 case f46=>exact Exists.intro "slices.siftDownCmpFunc[amortcost/api.Weighted]" ⟨κ,κ⟩
 case f49=>exact Exists.intro "slices.medianAdjacentCmpFunc[amortcost/api.Weighted]" ⟨κ,κ⟩
 case f50=>exact Exists.intro "slices.medianCmpFunc[amortcost/api.Weighted]" ⟨κ,κ⟩
 case f57=>exact Exists.intro "slices.order2CmpFunc[amortcost/api.Weighted]" ⟨κ,κ⟩
 all_goals first|kernel_rfl | (intro w;kernel_rfl)
theorem A38 (k:∀args w,(callFunc g args).run prog w = .ok (.enter g args) w) (c:∀x y n,cmp x y=some n->A6 prog g [eA x,eA y] (O .i64 n)) (f:∀x,∃cs,eA x = .agg cs) (h:∃o,Jt cmp b o) (j:b≠[]) : N7 prog 296 [.arr 0 b.length 0 b.length,.fn g []] [.rows 178 5 (b.map eA)] (λa i=>∃o,Jt cmp b o/\a = .tup []/\i = [.rows 178 5 (o.map eA)]) := Alk A37 rfl ⟨_,func296,κ,κ⟩ (by intro w;kernel_rfl) (by intro w;kernel_rfl) k c f h j
theorem A39 (j:∀args w,(callFunc g args).run prog w = .ok (.enter g args) w) (b:∀x y n,cmp x y=some n->A6 prog g [eA x,eA y] (O .i64 n)) (c:∀x,∃cs,eA x = .agg cs) {f:List α} (h:Pb cmp f=some r) (i:f≠[]) : Bp prog 296 [.arr 0 f.length 0 f.length,.fn g []] [.rows 178 5 (f.map eA)] (.tup []) [.rows 178 5 (r.map eA)] := ((A38 j b c ⟨r,(Wt h).toU⟩ i).one λ_ _ ⟨o,d,k,q⟩=>⟨k,by rw[q,(Wt h).only d]⟩)
end Go.Ab
namespace Go.Ab
open Go Go.Proofs Go.Shelf Go.Proofs.Tryz
set_option maxRecDepth 100000
set_option linter.unusedVariables false
variable {n:Int} {α:Type} {r:List α} {eA:α->AV}
theorem Alh {σ:A8} {ι:Ch} {H:Hp} {u v:Value} (h:Conc σ ι H (.val u) v):v=u:=by cases h with| cc h=>cases h;rfl
theorem Agc {ρ:Ren} {E:TypeId} {sz f:Nat} (L:Lays8.n4 prog ρ) (hf:ρ.f 4=f) (g:Y9 prog f) (l:TypeInfo) (z:Value) (G:prog.info? (ρ.t 25)=some l) (D:l.zero=some z) (U:ρ.t 25=E) (R:l.size=sz) (B:z.cells.size=sz) (q:0<sz) (I:l.bytes<=1000) (h:Nj n=some r):Bp prog f [.val (.slice none 0 0),O .i64 n] [] (.arr 0 r.length 0 r.length) [.rows E sz (r.map eA)]:=by
 have S:r = []/\0<=n/\n<=1000000:=by
  unfold Nj at h;by_cases h1:0<=n
  .by_cases h2:n<=1000000
   .rw[decide_eq_true h1,decide_eq_true h2]at h;have h:some ([]:List α)=some r:=h;cases h;exact⟨rfl,h1,h2⟩
   .rw[decide_eq_false h2,Bool.and_false]at h;cases h
  .rw[decide_eq_false h1,Bool.false_and]at h;cases h
 obtain⟨rfl,Z,Y⟩:=S;obtain⟨m,rfl⟩:∃m:Nat,n=m:=⟨n.toNat,ω⟩;refine⟨g,λσ F W w ι vs s y=>?_⟩;obtain⟨v,u,rfl,hv,hu⟩:=Alg y;obtain rfl:=Alh hv;obtain rfl:=Alh hu;have M:hp [] 0 = .none:=rfl;have N:A3 (hp []) 0 (.rows E sz [])=hp [.rows E sz []]:=by
  funext i
  match i with| 0=>rfl| i+1=>rfl
 by_cases h0:m=0
 .subst h0;have call:=Any8.slices_Grow_room L none 0 0 0 w (Nat.le_refl _) δ δ δ;rw[hf]at call;refine call.mono ?_;rintro e w' ⟨rfl,rfl⟩;obtain⟨s',le⟩:=s.newNil 0 M E sz q;rw[N]at s' le;refine⟨_,σ,_,rfl,le,s',.arr 0 0 0 0 _ (by intro e;cases e) (λX A xs e=>?_) rfl⟩;cases e;refine⟨Nat.le_refl _,λ_=>?_⟩;unfold H6;rw[Cn];exact⟨rfl,rfl,rfl⟩
 .have hb:(0+m)*l.bytes<=140737488355328:=(by have:=Nat.mul_le_mul (show 0+m<=1000000 by omega) I;omega);have call:=Any8.slices_Grow_grow L l z G D ω none 0 0 m [] w (Nat.le_refl _) ω hb ω ψ (λ_=>rfl) (λa h=>by cases h);rw[hf,U]at call;refine call.mono ?_;rintro e w' ⟨rfl,rfl⟩;have a1:=Ad6 w (0+m) 0 E;generalize grownCap w (0+m) 0 E=d at a1;have b:∀k,(Builtin.zeroCells z.cells k).size=k*sz:=(by intro k;simp[Builtin.zeroCells,B]);generalize V:(([]:List Value).toArray++Builtin.zeroCells z.cells (0+m-0)++Builtin.zeroCells z.cells (d-(0+m)))=C;have J:C.size=d*sz:=(by rw[<-V,Array.size_append,Array.size_append,b,b];simp only[size_toArray,length_nil,Nat.zero_add,Nat.sub_zero,<-Nat.add_mul];congr 1;omega);obtain⟨s',le⟩:=(s.drew (w.drawn+1)).newRows 0 E sz [] d C (.inl M) q ψ ψ J ⟨λ_ _=>.bool false,(by intro i x h;simp at h),(by intro i x j c h;simp at h),(by intro i j h;simp at h)⟩;rw[N]at s' le;refine⟨_,σ,_,rfl,le,s',.arr 0 0 0 0 _ (by intro e;cases e) (λX A xs e=>?_) rfl⟩;cases e;refine⟨Nat.le_refl _,λ_=>?_⟩;unfold H6;rw[Cn];exact⟨Nat.zero_le _,ψ⟩
def A4a:Ren:={f:=λx=>match x with|4=>170|n=>n,t:=λx=>match x with|22=>78|25=>100|3=>3|4=>4|9=>9|20=>20|0=>0|n=>n,g:=λn=>n}
theorem A4b:Lays8.n4 prog A4a:=by
 constructor
 case f4=>exact Exists.intro "slices.Grow[[]amortcost/api.Factor,amortcost/api.Factor]" ⟨κ,κ⟩
 all_goals first|kernel_rfl | (intro w;kernel_rfl)
theorem A4c (h:Nj n=some r):Bp prog 170 [.val (.slice none 0 0),O .i64 n] [] (.arr 0 r.length 0 r.length) [.rows 100 3 (r.map eA)] := Agc A4b rfl ⟨_,func170,κ,κ⟩ t100 (t100.zero.getD .nilFunc) κ κ rfl κ κ δ (of_decide_eq_true κ) h
def A4d:Ren:={f:=λx=>match x with|4=>171|n=>n,t:=λx=>match x with|22=>79|25=>103|3=>3|4=>4|9=>9|20=>20|0=>0|n=>n,g:=λn=>n}
theorem A4e:Lays8.n4 prog A4d:=by
 constructor
 case f4=>exact Exists.intro "slices.Grow[[]amortcost/api.Atom,amortcost/api.Atom]" ⟨κ,κ⟩
 all_goals first|kernel_rfl | (intro w;kernel_rfl)
theorem A4f (h:Nj n=some r):Bp prog 171 [.val (.slice none 0 0),O .i64 n] [] (.arr 0 r.length 0 r.length) [.rows 103 3 (r.map eA)] := Agc A4e rfl ⟨_,func171,κ,κ⟩ t103 (t103.zero.getD .nilFunc) κ κ rfl κ κ δ (of_decide_eq_true κ) h
def A4g:Ren:={f:=λx=>match x with|4=>332|n=>n,t:=λx=>match x with|22=>174|25=>178|3=>3|4=>4|9=>9|20=>20|0=>0|n=>n,g:=λn=>n}
theorem A4h:Lays8.n4 prog A4g:=by
 constructor
 case f4=>exact Exists.intro "slices.Grow[[]amortcost/api.Weighted,amortcost/api.Weighted]" ⟨κ,κ⟩
 all_goals first|kernel_rfl | (intro w;kernel_rfl)
theorem A4i (h:Nj n=some r):Bp prog 332 [.val (.slice none 0 0),O .i64 n] [] (.arr 0 r.length 0 r.length) [.rows 178 5 (r.map eA)] := Agc A4h rfl ⟨_,func332,κ,κ⟩ t178 (t178.zero.getD .nilFunc) κ κ rfl κ κ δ (of_decide_eq_true κ) h
def A4j:Ren:={f:=λx=>match x with|4=>342|n=>n,t:=λx=>match x with|22=>96|25=>98|3=>3|4=>4|9=>9|20=>20|0=>0|n=>n,g:=λn=>n}
theorem A4k:Lays8.n4 prog A4j:=by
 constructor
 case f4=>exact Exists.intro "slices.Grow[[]amortcost/api.Index,amortcost/api.Index]" ⟨κ,κ⟩
 all_goals first|kernel_rfl | (intro w;kernel_rfl)
theorem A4l (h:Nj n=some r):Bp prog 342 [.val (.slice none 0 0),O .i64 n] [] (.arr 0 r.length 0 r.length) [.rows 98 2 (r.map eA)] := Agc A4k rfl ⟨_,func342,κ,κ⟩ t98 (t98.zero.getD .nilFunc) κ κ rfl κ κ δ (of_decide_eq_true κ) h
end Go.Ab
