/- Contracts of the library. -/
import Derived.Test.YtdinnpegmcadbaaGreatDoorRnTy
import Derived.Test.YtdinnpegmcadbaaGreatDoorRnHandB
import Derived.Shelf.Strconv.Itoa4
import Derived.KernelRfl
import Derived.Shelf.Sort.Plain
import Derived.Shelf.SlSortCmp.WholeK
import Derived.Shelf.Spec.SlicesGrow
open List
namespace Go.Ab
open Go Go.Proofs Go.Shelf Go.Proofs.Tryz
set_option maxRecDepth 100000
variable {F σ:A7} {p x:AV} {vs:Array Value} {r:ByteArray} {ι:Cb} {H:Hp} {a0:Int} {l:List Int} {W w:World}
def Aqd:Ren:={f:=λx=>match x with|171=>192|243=>254|246=>298|283=>330|284=>331|285=>332|286=>333|129=>107|317=>347|318=>348|319=>349|320=>350|337=>355|338=>356|173=>256|n=>n,t:=λx=>match x with|3=>3|9=>9|2=>2|4=>4|171=>404|0=>0|53=>140|37=>261|5=>5|173=>406|212=>420|51=>141|20=>20|213=>421|46=>122|232=>426|233=>427|n=>n,g:=λx=>match x with|17=>0|18=>1|19=>2|n=>n}
theorem Aqe:LaysM.n171 prog Aqd:=by constructor;constructor;all_goals first|kernel_rfl | (intro w;kernel_rfl)
theorem St.grown (s:St σ ι0 H0 F W w) (k:Nat) (os:Array Obj):St σ ι0 H0 F W (Sort.grow (w.drewN k) os):=by
 have hk:∀(b:Nat) (o:Obj),w.heap[b]? = some o->(Sort.grow (w.drewN k) os).heap[b]? = some o:=by intro b o h;have d:=(Array.getElem?_eq_some_iff.1 h).1;show (w.heap++os)[b]? = _;rw[Array.getElem?_append_left d];exact h
 exact⟨λb o h=>hk b o (s.sto b o h),λb o h=>⟨hk b o (s.fra b o h).1,(s.fra b o h).2⟩,λ_=>rfl,(λ_ _ _ c=>by cases c),s.os,s.tape,s.output,s.glo,Nat.le_trans s.drw (Nat.le_add_right _ _)⟩
theorem Aqf (s:St σ ι H F W w):Lib.TabIs prog w "internal/strconv.uint64pow10" .u64 Lib.pow10Tab:=by obtain⟨E,d,e⟩:=s.glo;have h:=s.sto _ _ e;have g:prog.globalNamed "internal/strconv.uint64pow10" = some 0:=Aqe.m17;unfold Lib.TabIs World.var?;rw[g];simp only[Option.bind_some,h]
theorem Uq (h:Lt σ ι H [x] vs):∃v,vs = #[v]/\Conc σ ι H x v:=by
 obtain⟨d,j⟩:=h;have d:vs.size=1:=d;refine⟨vs[0],?_,j 0 x _ rfl (by simp[d])⟩;apply Array.ext
 .simp[d]
 .intro i hi b;have:i=0:=ω;subst this;rfl
theorem A2n (h:Pu a0=some r):A8 prog 192 [O .i64 a0] (Gq r):=by
 unfold Pu at h;split at h
 .rename_i d;cases h;refine⟨⟨_,func192,κ,κ⟩,λσ F W w vs s b=>?_⟩;obtain⟨v,rfl,hv⟩:=Uq b;have hv:=hv.val_inv;subst hv;have:=Any.strconv_Itoa Aqe a0 d.1 d.2 w (Aqf s);refine this.mono ?_;rintro e j ⟨rfl,k,os,rfl⟩;exact⟨_,σ,rfl,A7.le_refl σ,s.grown k os,.of_val _⟩
 .cases h
theorem A2o:LaysM.n173 prog Aqd:=by constructor;constructor;all_goals first|kernel_rfl | (intro w;kernel_rfl)
theorem Aku {y:AV} (h:Lt σ ι H [x,y] vs):∃v u,vs = #[v,u]/\Conc σ ι H x v/\Conc σ ι H y u:=by
 obtain⟨d,j⟩:=h;have d:vs.size=2:=d;refine⟨vs[0],vs[1],?_,j 0 x _ rfl (by simp[d]),j 1 y _ rfl (by simp[d])⟩;apply Array.ext
 .simp[d]
 .intro i hi b;rcases (ω:i=0\/i=1) with h|h
  .subst h;rfl
  .subst h;rfl
theorem A2p {a1:Int} (h:Ad6 a0 a1=some r):A8 prog 256 [O .i64 a0,O .i64 a1] (Gq r):=by
 unfold Ad6 at h;cases d:a1==10 with
 | false=>rw[d]at h;cases h
 | true=>
  rw[d]at h;have d:=eq_of_beq d;subst d;have h:Pu a0=some r:=h;unfold Pu at h;split at h
  .rename_i q;cases h;refine⟨⟨_,func256,κ,κ⟩,λσ F W w vs s b=>?_⟩;obtain⟨v,u,rfl,hv,j⟩:=Aku b;have hv:=hv.val_inv;have j:=j.val_inv;subst hv;subst j;have:=Any.strconv_FormatInt_10 A2o a0 q.1 q.2 w (Aqf s);refine this.mono ?_;rintro e y ⟨rfl,k,os,rfl⟩;exact⟨_,σ,rfl,A7.le_refl σ,s.grown k os,.of_val _⟩
  .cases h
theorem Aa6 (o:Bm) (os:List Bm):hp (o::os) 0=o:=rfl
theorem A2q (x:AV) (rest:List Bm):Bk prog 238 [.loc 0 0] (.cells 263 [.loc 0 0,x]::rest) (.tup []) (.cells 263 [.loc 0 0,x]::rest):=by
 refine⟨⟨_,func238,κ,κ⟩,λσ F W w ι vs s f=>?_⟩;obtain⟨v,rfl,hv⟩:=Uq f;obtain⟨b,d,hv⟩:=hv.loc_inv;subst hv;have k:=s.obj 0;unfold C4 at k;rw[Aa6]at k;obtain⟨z,C,u,_,_,A,q,y⟩:=k;rw[d]at u;cases u;have q:C.size=2:=q;have g:C[0]? = some C[0]:=by simp[q]
 have l:=y 0 (.loc 0 0) C[0] rfl g;obtain⟨D,h,j⟩:=l.loc_inv;rw[d]at h;cases h;have cell:w.cell? ⟨b,0,none⟩=some (.pointer (some ⟨b,0,none⟩)):=by rw[Kz A,g,j]
 refine (Tryz.check_used b w cell).mono ?_;rintro e I ⟨rfl,rfl⟩;exact⟨_,σ,ι,rfl,Le.refl _ _ _,s,.tup _ _ rfl (λi c v B _=>by cases B)⟩
theorem A2r (x:AV) (rest:List Bm):Bk prog 238 [.loc 0 0] (.cells 263 [.val (.pointer none),x]::rest) (.tup []) (.cells 263 [.loc 0 0,x]::rest):=by
 refine⟨⟨_,func238,κ,κ⟩,λσ F W w ι vs s j=>?_⟩;obtain⟨v,rfl,hv⟩:=Uq j;obtain⟨b,L,hv⟩:=hv.loc_inv;subst hv;have q:=s.obj 0;unfold C4 at q;rw[Aa6]at q;obtain⟨B,C,z,_,_,D,g,y⟩:=q;rw[L]at z;cases z;have g:C.size=2:=g;have k:C[0]? = some C[0]:=by simp[g]
 have l:=(y 0 (.val (.pointer none)) C[0] rfl k).val_inv;have cell:w.cell? ⟨b,0,none⟩=some (.pointer none):=by rw[Kz D,k,l]
 refine (Tryz.check_fresh b w cell (by simp[World.shape?,D,g]) (by simp[World.frozen?,D])).mono ?_;rintro e N ⟨rfl,rfl⟩;obtain⟨M,le⟩:=s.setBox 0 263 [.val (.pointer none),x] [.loc 0 0,x] rfl b L #[.pointer (some ⟨b,0,none⟩),C[1]] rfl (by
  intro i c v d I
  match i with| 0=>simp at d I;subst d;subst I;exact .loc 0 0 b L| 1=>simp at d I;subst d;subst I;exact y 1 x _ rfl (by simp[g])| i+2=>simp at d)
 have A:Az (hp (.cells 263 [.val (.pointer none),x]::rest)) 0 (.cells 263 [.loc 0 0,x])=hp (.cells 263 [.loc 0 0,x]::rest):=by funext i;cases i with| zero=>rfl| succ i=>rfl
 have eW:w.setCell ⟨b,0,none⟩ (.pointer (some ⟨b,0,none⟩))=w.setRow b #[.pointer (some ⟨b,0,none⟩),C[1]]:=by
  have h:C.setIfInBounds 0 (.pointer (some ⟨b,0,none⟩)) = #[.pointer (some ⟨b,0,none⟩),C[1]]:=by
   apply Array.ext
   .simp[g]
   .intro i hi u
    match i with| 0=>simp| 1=>rw[Array.getElem_setIfInBounds_ne _ δ];rfl| i+2=>simp at u;omega
  have f:(w.setCell ⟨b,0,none⟩ (.pointer (some ⟨b,0,none⟩))).heap=(w.setRow b #[.pointer (some ⟨b,0,none⟩),C[1]]).heap:=by
   apply Array.ext_getElem?;intro i;simp only[World.setCell,World.setRow,Array.getElem?_modify];split
   .rename_i e;subst e;rw[D];simp[h]
   .rfl
  unfold World.setCell World.setRow at f ⊢;simp only at f;rw[f]
 rw[A]at M le;rw[eW];exact⟨_,σ,ι,rfl,le,M,.tup _ _ rfl (λi c v d _=>by cases d)⟩
theorem A2s (h:∀x∈l,0<=x/\x<256) {j:Nat} {x:UInt8} (d:(Fk l)[j]? = some x):l[j]? = some (x.toNat:Int):=by simp only[Fk,getElem?_map,Option.map_eq_some_iff]at d;obtain⟨y,k,rfl⟩:=d;have b:=h y (mem_of_getElem? k);rw[k];congr 1;have:y.toNat<256:=ω;simp only[UInt8.toNat_ofNat'];omega
theorem St.kill (s:St σ ι H F W w) (h:Nat):St σ ι (Az H h .dead) F W w/\Le σ ι H σ ι (Az H h .dead):=by
 have le:Le σ ι H σ ι (Az H h .dead):=by have:=Le.upd (ι:=ι) (H:=H) (A7.le_refl σ) h (ι h) .dead ⟨λ_ e=>e,(λ_ e=>by cases e),(λ_ k j i e=>by cases e)⟩;rwa [J8]at this
 obtain⟨f1,f2⟩:=s.fresh;refine⟨s.touch h w.heap.size (λ_ _=>rfl) (λx e=>Cu _ _ e) le (λ_ _=>rfl) (λ_ _=>rfl) (λo g=>by rw[f1]at g;cases g) ?_ f2 ?_ ?_ rfl rfl rfl,le⟩
 .intro x _ c f;have:=(s.block c f).1;omega
 .intro b c;rw[Ch]at c;cases c
 .unfold C4;rw[Ch];trivial
theorem St.fbox (s0:St σ ι H F W w) {T:TypeId} {s:ByteArray} {b:Nat} {C:Array Value} (hh:H 0 = .cells T [p,x]) (hb:ι 0 = .box b) (h3:w.heap[b]? = some (.cells C T (0,0))) (hc:∀v,C[1]? = some v->CC σ (.fb s) v):St σ ι (Az H 0 (.cells T [p,.fb s])) F W w/\Le σ ι H σ ι (Az H 0 (.cells T [p,.fb s])):=by
 have f:=s0.obj 0;unfold C4 at f;rw[hh]at f;obtain⟨q,u,j,d,A,B,D,I⟩:=f;rw[hb]at j;cases j;rw[h3]at B;cases B;have le:Le σ ι H σ ι (Az H 0 (.cells T [p,.fb s])):=by have:=Le.upd (ι:=ι) (H:=H) (A7.le_refl σ) 0 (ι 0) (.cells T [p,.fb s]) (by rw[hh];exact⟨λ_ e=>e,(λ_ e=>by cases e),(λ_ _ _ _ e=>by cases e)⟩);rwa [J8]at this
 refine⟨s0.touch 0 b (λ_ _=>rfl) (λx e=>Cu _ _ e) le (λx e=>rfl) (λ_ _=>rfl) (λo e=>by rw[d]at e;cases e) ?_ A ?_ ?_ rfl rfl rfl,le⟩
 .intro x e k g;exact e (s0.inj x 0 b k (by rw[hh];rfl) g (by rw[hb];rfl))
 .intro l _ h;exact .inr ⟨by rw[hh];rfl,h⟩
 .unfold C4;rw[Ch];refine⟨b,C,hb,d,A,h3,by simpa using D,λi c v x y=>?_⟩
  match i with| 0=>exact (I 0 c v x y).mono le| 1=>cases x;exact .cc (hc v y)| i+2=>cases x
theorem A2t:Bk prog 185 [.loc 0 0] [.cells 263 [p,.arr 1 0 0 0],.rows 5 1 []] (Gq .empty) [.cells 263 [p,.fb .empty],.dead]:=by
 refine⟨⟨_,func185,κ,κ⟩,λσ F W w ι vs s y=>?_⟩;obtain⟨v,rfl,hv⟩:=Uq y;obtain⟨b,hb,hv⟩:=hv.loc_inv;subst hv;have L:=s.obj 0;unfold C4 at L;rw[Aa6]at L;obtain⟨b',C,X,_,_,h3,A,h5⟩:=L;rw[hb]at X;cases X;have A:C.size=2:=A;have Z:C = #[C[0],C[1]]:=by
  apply Array.ext
  .simp[A]
  .intro i hi M
   match i with| 0=>rfl| 1=>rfl| i+2=>simp at M;omega
 have N:=h5 1 (.arr 1 0 0 0) C[1] rfl (by simp[A]);have x:hp [Bm.cells 263 [p,.arr 1 0 0 0],.rows 5 1 []] 1 = .rows 5 1 []:=rfl;have c:=N.arr_inv x ψ;have a1:=s.obj 1;unfold C4 at a1;rw[x]at a1;obtain⟨_,U,a1⟩:=a1;have eH:Az (Az (hp [Bm.cells 263 [p,.arr 1 0 0 0],.rows 5 1 []]) 1 .dead) 0 (.cells 263 [p,.fb .empty])=hp [Bm.cells 263 [p,.fb .empty],.dead]:=by
  funext i
  match i with| 0=>rfl| 1=>rfl| i+2=>rfl
 have go:∀(a q:Option Addr) (d:Nat) (z:A7) (j:World),C[1] = .slice a 0 d->j.heap[b]? = w.heap[b]?->(Builtin.unsafeSliceData_ #[261] 325 #[.slice a 0 d]).run prog w.drew = .ok (.pointer q) j ->
   Le σ ι (hp [Bm.cells 263 [p,.arr 1 0 0 0],.rows 5 1 []]) z ι (hp [Bm.cells 263 [p,.arr 1 0 0 0],.rows 5 1 []])->St z ι (hp [Bm.cells 263 [p,.arr 1 0 0 0],.rows 5 1 []]) F W j -> Calls prog 185 #[.pointer (some ⟨b,0,none⟩)] w λe w'=>∃v B E,e = .returned v/\Le σ ι (hp [Bm.cells 263 [p,.arr 1 0 0 0],.rows 5 1 []]) B E (hp [Bm.cells 263 [p,.fb .empty],.dead])/\St B E (hp [Bm.cells 263 [p,.fb .empty],.dead]) F W w'/\Conc B E (hp [Bm.cells 263 [p,.fb .empty],.dead]) (Gq .empty) v:=by intro a q d z j f u R le G;have h:w.heap[b]? = some (.cells #[C[0],.slice a 0 d] 263 (0,0)):=(by rw[h3];congr 1;rw[<-f,<-Z]);refine (Tryz.builder_str0 b d C[0] a q w j h (u.trans h) R).mono ?_;rintro e w' ⟨rfl,rfl⟩;obtain⟨Y,I⟩:=G.kill 1;obtain⟨S,l⟩:=Y.fbox (b:=b) (C:=#[C[0],.slice a 0 d]) (s:=.empty) (by rfl) hb ((u.trans h)) (λv hv=>by simp at hv;subst hv;exact .fbn _ _ _ rfl);rw[eH]at S l;exact⟨_,z,ι,rfl,(le.trans I).trans l,S,.of_val _⟩
 rcases a1 with⟨hi,_⟩|⟨g,k,D,hg,g1,g2,g3,g4,g5,g6⟩
 .unfold Hq at c;rw[hi]at c;exact go none none 0 σ w.drew c.1 rfl rfl (Le.refl _ _ _) (s.drew _)
 .unfold Hq at c;rw[hg]at c;simp only[Nat.zero_mul,Nat.zero_add,Nat.sub_zero]at c;obtain⟨_,f⟩:=c;by_cases ht:k=0
  .subst ht;obtain⟨G,J⟩:=(s.drew (w.drawn+1)).newFrozen (.view ⟨g,0,none⟩ 5);have V:=(Array.getElem?_eq_some_iff.1 h3).1;refine go _ _ 0 _ (w.drew.alloc (.view ⟨g,0,none⟩ 5)) f ?_ (Lib.run_unsafeSliceData_zero _ _ _ 5 underlying325 _ _ (5,D.size) (by have:w.drew.heap[g]? = some (.cells D 5 (0,0)):=g3;simp[World.shape?,this])) J G;show (w.heap.push _)[b]? = _;rw[Array.getElem?_push,if_neg ω]
  .exact go _ _ k σ w.drew f rfl (Lib.run_unsafeSliceData_row _ _ _ _ _ _ ht) (Le.refl _ _ _) (s.drew _)
theorem Aqg (h:Yy l=some r):Bk prog 185 [.loc 0 0] [.cells 263 [p,.arr 1 l.length 0 l.length],.rows 5 1 (map (O .u8) l)] (Gq r) [.cells 263 [p,.fb r],.dead]:=by
 unfold Yy at h;split at h
 .rename_i a7;cases h;by_cases u:l = []
  .subst u;exact A2t
  refine⟨⟨_,func185,κ,κ⟩,λσ F W w ι vs s R=>?_⟩;obtain⟨v,rfl,hv⟩:=Uq R;obtain⟨b,hb,hv⟩:=hv.loc_inv;subst hv;have A:=s.obj 0;unfold C4 at A;rw[Aa6]at A;obtain⟨b',C,e1,_,_,h3,X,h5⟩:=A;rw[hb]at e1;cases e1;have X:C.size=2:=X;have hC:C = #[C[0],C[1]]:=by
   apply Array.ext
   .simp[X]
   .intro i hi a1
    match i with| 0=>rfl| 1=>rfl| i+2=>simp at a1;omega
  have a6:=h5 1 (.arr 1 l.length 0 l.length) C[1] rfl (by simp[X]);have M:hp [Bm.cells 263 [p,.arr 1 l.length 0 l.length],.rows 5 1 (map (O .u8) l)] 1 = .rows 5 1 (map (O .u8) l):=rfl;have y:=a6.arr_inv M ψ;have d:=s.obj 1;unfold C4 at d;rw[M]at d;obtain⟨_,L,d⟩:=d;rw[length_map]at L;rcases d with⟨_,I⟩|⟨g,q,D,hg,g1,g2,g3,g4,g5,g6⟩
  .exact (u (by simpa using I)).elim
  .rw[length_map]at g5;unfold Hq at y;rw[hg]at y;simp only[Nat.zero_mul,Nat.zero_add,Nat.sub_zero]at y;obtain⟨ht,G⟩:=y;have c:(Fk l).length=l.length:=(by simp[Fk]);have f:∀(j:Nat) (x:UInt8),(Fk l)[j]? = some x->D[j]? = some (Value.int .u8 x.toNat):=(by intro j x hx;have hj:=A2s a7 hx;obtain⟨gg,q1,q2,q3⟩:=g6;have E:(map (O .u8) l)[j]? = some (O .u8 x.toNat):=(by rw[getElem?_map,hj];rfl);have a3:j<(map (O .u8) l).length:=(List.getElem?_eq_some_iff.1 E).1;have q4:=q3 j 0 a3 ω;have q5:=(q2 j _ 0 _ E rfl).1;have:gg j 0=Value.int .u8 x.toNat:=(by generalize gg j 0=z at q5;cases q5;rfl);rw[this]at q4;simpa using q4);have S:w.heap[b]? = some (.cells #[C[0],.slice (some ⟨g,0,none⟩) (Fk l).length q] 263 (0,0)):=(by rw[h3];congr 1;rw[c];have:C[1] = .slice (some ⟨g,0,none⟩) l.length q:=G;rw[<-this,<-hC]);have U:l.length<=D.size:=(by rw[g4];omega);have call:=Tryz.builder_str b g q C[0] D (Fk l) w (by intro e;apply u;rw[<-length_eq_zero_iff,<-c,e];rfl) S g3 (by rw[c];exact g5) (by rw[c];exact U) (by rw[c];omega) f;refine call.mono ?_;rintro e w' ⟨rfl,rfl⟩;have J:(Fk l).length≠0:=(by rw[c];simpa using u);have Z:σ.le (Az σ g (some (.cells D 5 (0,(Fk l).length)))):=(by intro b' o' a2;rw[Cu _ _ (by intro e;subst e;rw[g1]at a2;cases a2)];exact a2);have Y:(w.drew.freeze ⟨g,0,none⟩ (Fk l).length).heap[g]? = some (.cells D 5 (0,(Fk l).length)):=(by unfold World.freeze;rw[if_neg J];simp only[Array.getElem?_modify,if_true];have:w.drew.heap[g]? = some (.cells D 5 (0,0)):=g3;rw[this];simp);have N:∀b,b≠g->(w.drew.freeze ⟨g,0,none⟩ (Fk l).length).heap[b]? = w.heap[b]?:=by
    intro b hb;unfold World.freeze;split
    .rfl
    .simp only[Array.getElem?_modify];rw[if_neg (Ne.symm hb)];rfl
   have le:Le σ ι (hp [Bm.cells 263 [p,.arr 1 l.length 0 l.length],.rows 5 1 (map (O .u8) l)]) (Az σ g (some (.cells D 5 (0,(Fk l).length)))) ι (Az (hp [Bm.cells 263 [p,.arr 1 l.length 0 l.length],.rows 5 1 (map (O .u8) l)]) 1 .dead):=(by have:=Le.upd (ι:=ι) (H:=hp [Bm.cells 263 [p,.arr 1 l.length 0 l.length],.rows 5 1 (map (O .u8) l)]) Z 1 (ι 1) .dead ⟨λ_ e=>e,(λ_ e=>by cases e),(λ_ E1 ac ab e=>by cases e)⟩;rwa [J8]at this);have eH:Az (Az (hp [Bm.cells 263 [p,.arr 1 l.length 0 l.length],.rows 5 1 (map (O .u8) l)]) 1 .dead) 0 (.cells 263 [p,.fb ⟨(Fk l).toArray⟩])=hp [Bm.cells 263 [p,.fb ⟨(Fk l).toArray⟩],.dead]:=by
    funext i
    match i with| 0=>rfl| 1=>rfl| i+2=>rfl
   have aa:b≠g:=(by intro e;have:=s.inj 0 1 g rfl rfl (by rw[hb,e];rfl) (by rw[hg];rfl);cases this);have s2:St (Az σ g (some (.cells D 5 (0,(Fk l).length)))) ι (Az (hp [Bm.cells 263 [p,.arr 1 l.length 0 l.length],.rows 5 1 (map (O .u8) l)]) 1 .dead) F W (w.drew.freeze ⟨g,0,none⟩ (Fk l).length):=by
    refine s.touch (hdrw:=by unfold World.freeze;split <;> exact Nat.le_succ _) 1 g (λ_ _=>rfl) (λx e=>Cu _ _ e) le N (λx e=>Cu _ _ e) (λo A=>by rw[Ch]at A;cases A;exact Y) ?_ g2 ?_ ?_ ?_ ?_ ?_
    .intro x hx V a8;exact hx (s.inj x 1 g V rfl a8 (by rw[hg];rfl))
    .intro b0 V;rw[Ch]at V;cases V
    .unfold C4;rw[Ch];trivial
    .unfold World.freeze;split <;> rfl
    .unfold World.freeze;split <;> rfl
    .unfold World.freeze;split <;> rfl
   obtain⟨s3,B⟩:=s2.fbox (b:=b) (C:=#[C[0],.slice (some ⟨g,0,none⟩) (Fk l).length q]) (s:=⟨(Fk l).toArray⟩) (by rfl) hb ((N b aa).trans S) (λv hv=>by simp only[getElem?_toArray,getElem?_cons_succ,getElem?_cons_zero,Option.some.injEq]at hv;subst hv;have k:(ByteArray.mk (Fk l).toArray).size=(Fk l).length:=(by simp[ByteArray.size]);rw[<-k];refine .fb _ g q D (by rw[Ch,k]) (by rw[k];exact J) (by rw[k,c];omega) (by rw[k,c];exact U) (by rw[k,c];omega) λj x hx=>f j x (by simpa using hx));rw[eH]at s3 B;exact⟨_,_,ι,rfl,le.trans B,s3,.of_val _⟩
 .cases h
theorem Aqh {f:ByteArray} (h:(bif Nat.beq f.size 0 then none else some f)=some r):Bk prog 185 [.loc 0 0] [.cells 263 [p,.fb f]] (Gq r) [.cells 263 [p,.fb f]]:=by
 have q:r.size≠0/\f=r:=by cases d:Nat.beq f.size 0 with| true=>rw[d]at h;cases h| false=>rw[d]at h;cases h;exact⟨(λe=>by rw[e]at d;exact Bool.noConfusion d),rfl⟩
 clear h;obtain⟨q,B⟩:=q;subst B;refine⟨⟨_,func185,κ,κ⟩,λσ F W w ι vs s y=>?_⟩;obtain⟨v,rfl,hv⟩:=Uq y;obtain⟨b,d,hv⟩:=hv.loc_inv;subst hv;have E:=s.obj 0;unfold C4 at E;rw[Aa6]at E;obtain⟨V,C,M,_,_,h3,A,S⟩:=E;rw[d]at M;cases M;have A:C.size=2:=A;have L:C = #[C[0],C[1]]:=by
  apply Array.ext
  .simp[A]
  .intro i hi G
   match i with| 0=>rfl| 1=>rfl| i+2=>simp at G;omega
 have l:=S 1 (.fb f) C[1] rfl (by simp[A]);generalize C[1]=u at L l;generalize C[0]=N at L;subst L;cases l with
 | cc l=>
  cases l with
  | fbn _ a X h0=>exact (q h0).elim
  | fb _ g X D R h0 z J U I=>
   have hg:=s.sto _ _ R;have k:f.data.toList.length=f.size:=(by rw[Array.length_toList];rfl);have call:=Tryz.builder_str b g X N D f.data.toList w (by intro e;rw[e]at k;exact h0 k.symm) (by rw[k];exact h3) hg (by rw[k];exact z) (by rw[k];exact J) (by rw[k];omega) λj x hx=>I j x (by simpa using hx);refine call.mono ?_;rintro e w' ⟨rfl,rfl⟩;have hw:w.drew.freeze ⟨g,0,none⟩ f.data.toList.length=w.drew:=by
    unfold World.freeze;split
    .rfl
    .have:w.drew.heap.modify g (λo=>match o with|.cells c elem (lo,hi)=>.cells c elem (if lo==hi then (0,0+f.data.toList.length) else (min lo 0,max hi (0+f.data.toList.length))) | o=>o)=w.drew.heap:=by
      apply Array.ext_getElem?;intro i;rw[Array.getElem?_modify];split
      .rename_i e;subst e;have:w.drew.heap[g]? = some (.cells D 5 (0,f.size)):=hg;rw[this];simp[k,Ne.symm h0]
      .rfl
     exact congrArg (λh=>{w.drew with heap:=h}) this
   rw[hw];have er:(⟨f.data.toList.toArray⟩:ByteArray)=f:=ψ;rw[er];exact⟨_,σ,ι,rfl,Le.refl _ _ _,s.drew _,.of_val _⟩
end Go.Ab
namespace Go.Ab
open Go Go.Proofs Go.Proofs.Tryz
set_option linter.unusedVariables false
class OK {α:Type} (o:Option α) (G:outParam (α->Prop)):Prop where
 ok:∀{r:α},o=some r->G r
theorem Ew {α:Type} {G:α->Prop}:OK (none:Option α) G:=⟨λh=>by cases h⟩
section
variable {P:Program} {C:Cfg} {X:Nat->B7->Hp->Prop} {U:Nat->Nat->B7->Hp->Prop} {V:Nat->B7->Hp->Prop} {n:Nat} {e:B7} {H:Hp} {β:Type} {r:β}
variable {T:Dq} {an:Nat->Ann} {nl:Nat->List (Nat×Nat)} {ops:Array Oper} {o:Oper} {os:List Oper} {acc:Lf} {K:Nat->B7->Hp->Lf->Prop}
variable {fn:Func} {hi i lo:Int} {xs ys zs:List AV} {hs:List Bm} {b kk n0:Nat} {E S α:Type} {J:E->Option β} {l:List α} {g:List α->List AV} {m:List α->Option β} {s0:S} {I:S->List (Nat×AV)} {hv:S->List (Nat×Bm)} {x:α} {ra:α->AV} {G:α->Prop}
theorem Ij {p:Nat×Bool} {s:Nat} {b:Bool} {m m':Option β} (h:(bif b then m else m')=some r) (d:b=true->m=some r->Ga (Fy P T an nl ops (o::os) n (Az e s (.val (.bool true))) H acc K)) (j:b=false->m'=some r->Ga (Fy P T an nl ops (o::os) n (Az e s (.val (.bool false))) H acc K)) (hg:o.guard=some p:=by exact rfl) (hs:(ops[p.1]?).bind (·.dst)=some s:=by exact rfl) (hb:e s = .val (.bool b):=by exact rfl):Ga (Fy P T an nl ops (o::os) n e H acc K):=A1u h d j hb
theorem nw {c:Code} (k:wc P C c X U V n e H):Ga (wc P C c X U V n e H):=.mk k
theorem Cy {o:S⊕E} {x:E} (h:some (Sum.inr x)=some o) (d:∀x,Sum.inr x=o->J x=some r:=by assumption):J x=some r:=d x (Option.some.inj h)
theorem lpj {o:S} {J:S->Option β} {x:S} (h:some x=some o) (d:∀y,y=o->J y=some r:=by assumption):J x=some r:=d x (Option.some.inj h)
theorem lpn {o:S⊕E} {s':S} {K:Nat->B7->Hp->Prop} {d:S->Prop} {H0:Hp} (h:some (Sum.inl s')=some o) (q:∀s' s j k,Sum.inl s'=o->Hc j (I s')->Hi k (Cp H0 (hv s')) n0 n0->d s'->K s j k:=by assumption) (hs:Hc e (I s'):=by (repeat refine⟨rfl,?_⟩);exact trivial) (hh:Hi H (Cp H0 (hv s')) n0 n0:=by (repeat refine⟨⟨rfl,rfl⟩,?_⟩);exact trivial) (hi:d s':=by first|trivial|exact rfl | ((repeat refine I9 ?_ _ _);first|exact rfl|assumption)):K n e H:=q s' n e H (Option.some.inj h) hs hh hi
theorem jnn {o x:E} {s:S} {J:S->Prop} {K:Nat->B7->Hp->Prop} {H0:Hp} (h:some x=some o) (k:∀s q d j,J s->Hc d (I s)->Hi j (Cp H0 (hv s)) n0 n0->K q d j:=by assumption) (u:J s:=by exact Option.some.inj h) (hs:Hc e (I s):=by (repeat refine⟨rfl,?_⟩);exact trivial) (hh:Hi H (Cp H0 (hv s)) n0 n0:=by (repeat refine⟨⟨rfl,rfl⟩,?_⟩);exact trivial):K n e H:=k s n e H u hs hh
theorem R8 {o:Option α} {m:α->Option β} {f:FuncId} {args:List AV} {K:Eff->Nat->Prop} (h:o.bind m=some r) [i:OK o G] (k:∀v,m v=some r->K ⟨ra v,[],[]⟩ n) (d:∀v,G v->A8 P f args (ra v):=by exact λ_ h=>h) (j:args.all AV.free=true:=by exact rfl):Fx P n H f args K := Db h λv hv h=>Fx.mk _ (d v (i.ok hv)) j (k v h)
theorem Aqi {o:Option α} {m:α->Option β} {f:FuncId} {args d:List AV} {K:Eff->Nat->Prop} (h:o.bind m=some r) [i:OK o G] (k:∀v,m v=some r->K ⟨ra v,[],[]⟩ n) (j:∀v,G v->A8 P f d (ra v):=by exact λ_ h=>h) (hs:Q8 args d:=by (repeat first|refine⟨Sub.refl _,?_⟩|refine⟨Sub.nil _,?_⟩);exact trivial) (q:args.all AV.free=true:=by exact rfl):Fx P n H f args K := Db h λv hv h=>Fx.mk _ (A8.sub (j v (i.ok hv)) hs (Sub.refl _)) q (k v h)
theorem N7 {o:Option α} {m:α->Option β} {f:FuncId} {args largs:List AV} {hs':α->List Bm} {K:Eff->Nat->Prop} (l:List Nat) (h:o.bind m=some r) [i:OK o G] (k:∀v,m v=some r->K ⟨ren (Df n l) (ra v),E2 (Df n l) 0 hs++Cq (Df n l) l.length ((hs' v).length-l.length),E2 (Df n l) 0 (hs' v)⟩ (n+((hs' v).length-l.length))) (d:∀v,G v->Bk P f largs hs (ra v) (hs' v):=by exact λ_ h=>h) (j:largs.map (ren (Df n l))=args:=by exact rfl) (ok:∀v,K4 n l largs hs (ra v) (hs' v)=true:=by exact λ_=>rfl) (hh:Nm H (E2 (Df n l) 0 hs):=by (repeat refine⟨rfl,?_⟩);exact trivial):Fx P n H f args K := Db h λv hv h=>Fx.act l largs hs (ra v) (hs' v) (d v (i.ok hv)) j (ok v) hh (k v h)
theorem A2u {F:List α->Option (List α)} {cmp:α->α->Option Int} {b:Oper} {c:Call} {x:Operand} {f g d E sz:Nat} {eA:α->AV} {K:B7->Hp->Prop} (s:Nat) (V:(∀x y n,cmp x y=some n->A8 P g [eA x,eA y] (O .i64 n))->(∃o,Jn cmp l o)->l≠[]->Nl P f [.arr 0 l.length 0 l.length,.fn g []] [.rows E sz (l.map eA)] (λa hs'=>∃o,Jn cmp l o/\a = .tup []/\hs' = [.rows E sz (o.map eA)])) (h:(Tk.mk F cmp l).bind m=some r) [i:OK (F l) λo=>Bk P f [.arr 0 l.length 0 l.length,.fn g []] [.rows E sz (l.map eA)] (.tup []) [.rows E sz (o.map eA)]] [j:∀x y,OK (cmp x y) λn=>A8 P g [eA x,eA y] (O .i64 n)] (k:∀o,m o=some r->K (Az e d (.tup [])) (Az H s (.rows E sz (o.map eA)))) (X:b.op = .call c:=by exact rfl) (u:c.callee = .value x:=by exact rfl) (hx:ev e x = .fn f []:=by exact rfl) (A:b.dst=some d:=by exact rfl) (ha:[.arr s l.length 0 l.length,.fn g []]=c.args.toList.map (ev e):=by exact rfl) (hn:Nat.blt s n=true:=by exact rfl) (hh:H s = .rows E sz (l.map eA):=by exact rfl):Aj2 P b n e H K:=by
 have B:∀R:AV->List Bm->Prop,Nl P f [.arr 0 l.length 0 l.length,.fn g []] [.rows E sz (l.map eA)] R->(∃o:List α,R (.tup []) [.rows E sz (o.map eA)])->(∀a hs',R a hs'->∃o:List α,a = .tup []/\hs' = [.rows E sz (o.map eA)]/\m o=some r)->Aj2 P b n e H K:=by
  rintro R hR ⟨o0,h0⟩ N;refine .mk c x f [] [s] _ _ R _ _ hR X u hx (by rw[append_nil,<-ha];rfl) h0 (λa hs' q=>?_) ⟨hh,trivial⟩ λa hs' q=>?_
  .obtain⟨o,rfl,rfl,_⟩:=N a hs' q;refine⟨?_,rfl⟩;simp[K4,Oj,hn,AV.under,AV.under1,Bm.under]
  .obtain⟨o,rfl,rfl,I⟩:=N a hs' q;have:=k o I;rw[A];exact this
 unfold Tk.bind at h;cases L:Nat.ble l.length 12 with| true=>simp only[L,cond_true]at h;obtain⟨o,D,M⟩:=Option.bind_eq_some_iff.1 h;exact B _ (i.ok D).toR ⟨o,rfl,rfl⟩ λa hs' q=>⟨o,q.1,q.2,M⟩| false=>simp only[L,cond_false]at h;obtain⟨⟨o,D⟩,M⟩:=A2f h;exact B _ (V (λx y n q=>(j x y).ok q) ⟨o,D⟩ (by rintro rfl;cases L)) ⟨o,o,D,rfl,rfl⟩ λa hs' ⟨U,q1,I,q3⟩=>⟨U,I,q3,M U q1⟩
theorem O7 {f:α->AV} {m:α->Option β} {K:Nat->AV->Prop} (h:(Ag l i).bind m=some r) (k:∀(n:Nat) (x:α),i=n->l[n]? = some x->m x=some r->K n (f x)) (d:ys=l.map f:=by first|exact rfl|exact Li _|exact Lj _|exact Jo _):Vv ys i K:=Apn d h k
theorem Ia {f:α->AV} {m:α->Option β} {K:Nat->Prop} {len:Nat} (h:(Ag l i).bind m=some r) (k:∀(n:Nat) (x:α),i=n->l[n]? = some x->m x=some r->K n) (d:ys=l.map f:=by first|exact rfl|exact Li _|exact Lj _|exact Jo _) (j:len=l.length:=by first|exact rfl|assumption|exact H8 (by assumption) | ((repeat refine I9 ?_ _ _);first|exact rfl|assumption)) (q:kk=l.length:=by first|exact rfl|assumption|exact H8 (by assumption) | ((repeat refine I9 ?_ _ _);first|exact rfl|assumption)):S9 len kk ys i K:=A1v d j q h k
theorem M7 {f:α->AV} {m:α->Option β} {K:Nat->Prop} {off len:Nat} (h:(Hy l off len i).bind m=some r) (k:∀(n:Nat) (x:α),i=n->l[off+n]? = some x->m x=some r->K n) (d:ys=l.map f:=by first|exact rfl|exact Li _|exact Lj _|exact Jo _) (j:kk=l.length:=by first|exact rfl|assumption|exact H8 (by assumption) | ((repeat refine I9 ?_ _ _);first|exact rfl|assumption)):S9 len kk ys i K:=A1w d j h k
theorem R9 {f:α->AV} {K:Int->Prop} (k:K (l.length:Int)) (d:ys=l.map f:=by first|exact rfl|exact Li _|exact Lj _|exact Jo _):Nq ys K:=A17 d k
theorem Sa {f:α->AV} {K:Prop} (k:K) (d:ys=l.map f:=by first|exact rfl|exact Li _|exact Lj _|exact Jo _) (h:kk=l.length:=by first|exact rfl|assumption|exact H8 (by assumption) | ((repeat refine I9 ?_ _ _);first|exact rfl|assumption)):Ie kk ys K:=A18 d h k
theorem Sb {K:Prop} (k:K):Ie 0 [] K:=.mk rfl k
theorem Sc {f:α->AV} {n i:Nat} {K:AV->Prop} (k:K (f x)) (d:ys=l.map f:=by first|exact rfl|exact Li _|exact Lj _|exact Jo _) (h:kk=l.length:=by first|exact rfl|assumption|exact H8 (by assumption) | ((repeat refine I9 ?_ _ _);first|exact rfl|assumption)) (hi:i=n/\l[n]? = some x:=by first|exact⟨Nat.zero_add _,by assumption⟩|exact⟨rfl,by assumption⟩):My kk i ys K:=A11 d h hi.1 hi.2 k
theorem Aqj {f:α->AV} {n i:Nat} {j:Int} {p:AV} {K:List AV->Prop} (k:K ((Cr l j x).map f)) (d:ys=l.map f:=by first|exact rfl|exact Li _|exact Lj _|exact Jo _) (hp:p=f x:=by exact rfl) (hi:i=n/\j=(n:Int):=by first|exact⟨Nat.zero_add _,by assumption⟩|exact⟨rfl,by assumption⟩|exact⟨rfl,Apj _ (by assumption)⟩):Vy ys i p K:=Ma d hp hi.1 hi.2 k
theorem Kq {ys:List α} {f:α->AV} {len:Nat} {K:List AV->Nat->Prop} {j:List AV->Nat->Nat->Prop} (h:(B8 b l ys).bind m=some r) (k:∀o:List α,m o=some r->K (o.map f) o.length) (d:xs=l.map f/\zs=ys.map f:=by first|exact⟨rfl,rfl⟩ | (refine⟨?_,?_⟩;rotate_left;exact rfl;exact rfl)) (q:kk=l.length:=by first|exact rfl|assumption|exact H8 (by assumption) | ((repeat refine I9 ?_ _ _);first|exact rfl|assumption)) (s:len=l.length:=by first|exact rfl|assumption|exact H8 (by assumption) | ((repeat refine I9 ?_ _ _);first|exact rfl|assumption)):No xs zs kk len b K j:=Th d.1 d.2 q s h k
theorem Aqk {l:List Int} {s:ByteArray} {len:Nat} {m:List Int->Option β} {K:List AV->Nat->Prop} {d:List AV->Nat->Nat->Prop} (h:(B8 b l (Ns s)).bind m=some r) (k:∀o:List Int,m o=some r->K (o.map λn=>.val (.int .u8 n)) o.length) (j:xs=l.map λn=>.val (.int .u8 n):=by exact rfl) (q:kk=l.length:=by first|exact rfl|assumption|exact H8 (by assumption) | ((repeat refine I9 ?_ _ _);first|exact rfl|assumption)) (u:len=l.length:=by first|exact rfl|assumption|exact H8 (by assumption) | ((repeat refine I9 ?_ _ _);first|exact rfl|assumption)):No xs (Kj s) kk len b K d:=A14 j q u h k
class GL {α:Type} (g:List α->List AV) (f:outParam (α->AV)):Prop where
 eq:∀l,g l=l.map f
instance:GL Bl Ee:=⟨Li⟩
instance:GL Hg Fu:=⟨Lj⟩
instance:GL Gl Gg:=⟨Jo⟩
theorem Akw {f:α->AV} [i:GL g f] {ys:List α} {len:Nat} {K:List AV->Nat->Prop} {d:List AV->Nat->Nat->Prop} (h:(B8 b l ys).bind m=some r) (k:∀o:List α,m o=some r->K (g o) o.length) (j:zs=ys.map f:=by first|exact rfl|exact GL.eq _) (q:kk=l.length:=by first|exact rfl|assumption|exact H8 (by assumption) | ((repeat refine I9 ?_ _ _);first|exact rfl|assumption)) (s:len=l.length:=by first|exact rfl|assumption|exact H8 (by assumption) | ((repeat refine I9 ?_ _ _);first|exact rfl|assumption)):No (g l) zs kk len b K d:=A15 i.eq (i.eq l) j q s h k
theorem Aql {ys:List α} {f:α->AV} {K:List AV->Nat->Prop} (h:(B8 b [] ys).bind m=some r) (k:∀o:List α,m o=some r->K (o.map f) o.length) (d:zs=ys.map f:=by exact rfl):Ta zs b K:=Apv d h k
theorem Aqm {f:α->AV} [i:GL g f] {ys:List α} {K:List AV->Nat->Prop} (h:(B8 b [] ys).bind m=some r) (k:∀o:List α,m o=some r->K (g o) o.length) (d:zs=g ys:=by exact rfl):Ta zs b K:=Apw i.eq (d.trans (i.eq ys)) h k
theorem Jc {z:α} {f:α->AV} {j:AV} {len d:Int} {K:Nat->List AV->Prop} (h:(Gk b len d z).bind m=some r) (k:∀o:List α,m o=some r->K o.length (o.map f)) (q:j=f z:=by first|exact (rfl:_=O _ _) | exact (rfl:_=Aw _) | exact rfl):Vx len d b j K:=A16 q h k
theorem Ur {f:α->AV} {K:List AV->Prop} (h:(F1 l lo hi).bind m=some r) (k:∀d:List α,m d=some r->K (d.map f)) (j:ys=l.map f:=by first|exact rfl|exact Li _|exact Lj _|exact Jo _):Nn ys lo hi K:=Ajt j h k
theorem Aqn {f:α->AV} [i:GL g f] {K:List AV->Prop} (h:(F1 l lo hi).bind m=some r) (k:∀d:List α,m d=some r->K (g d)):Nn (g l) lo hi K:=A12 i.eq (i.eq l) h k
theorem Xe {f:α->AV} [i:GL g f] {K:List AV->Prop} (h:(F1 l lo l.length).bind m=some r) (k:∀d:List α,m d=some r->K (g d)):Nn (g l) lo (g l).length K:=A13 i.eq (i.eq l) h k
theorem Afl {f:α->AV} {K:List AV->Prop} (h:(F1 l lo l.length).bind m=some r) (k:∀d:List α,m d=some r->K (d.map f)) (j:ys=l.map f:=by first|exact rfl|exact Li _|exact Lj _|exact Jo _):Nn ys lo ys.length K:=Apu j h k
theorem E4 {step:S->Option (S⊕E)} {b:Code} (h:(Ak step s0).bind J=some r) (I:S->List (Nat×AV)) (hv:S->List (Nat×Bm)) (d:S->Prop) (j:∀(s:S) (u:Nat->Value) (K:Nat->B7->Hp->Prop) (o:S⊕E),step s=some o->(∀x,.inr x=o->J x=some r)->(∀k A q y,.inl k=o->Hc q (I k)->Hi y (Cp H (hv k)) n n->d k->K A q y)->d s -> wc P C b K U V n (Kl (He b) e u (I s)) (Cp H (hv s))) (hb:∀s,K5 n (I s) (hv s)=true:=by exact λ_=>rfl) (hs:Hc e (I s0):=by (repeat refine⟨rfl,?_⟩);exact trivial) (hh:Hi H (Cp H (hv s0)) n n:=by (repeat refine⟨⟨rfl,rfl⟩,?_⟩);exact trivial) (h0:d s0:=by first|exact rfl|assumption|exact H8 (by assumption) | ((repeat refine I9 ?_ _ _);first|exact rfl|assumption)):wc P C (.loop b) X U V n e H:=Ap3 h I hv d hb hs hh h0 j
theorem Aqo {step:S->Option (S⊕E)} {b:Code} (h:(Ak step s0).bind J=some r) (I:S->List (Nat×AV)) (hv:S->List (Nat×Bm)) (d:∀(s:S) (u:Nat->Value) (K:Nat->B7->Hp->Prop) (o:S⊕E),step s=some o->(∀x,.inr x=o->J x=some r)->(∀j y k q,.inl j=o->Hc k (I j)->Hi q (Cp H (hv j)) n n->True->K y k q) -> wc P C b K U V n (Kl (He b) e u (I s)) (Cp H (hv s))) (hb:∀s,K5 n (I s) (hv s)=true:=by exact λ_=>rfl) (hs:Hc e (I s0):=by (repeat refine⟨rfl,?_⟩);exact trivial) (hh:Hi H (Cp H (hv s0)) n n:=by (repeat refine⟨⟨rfl,rfl⟩,?_⟩);exact trivial):wc P C (.loop b) X U V n e H:=Ap3 h I hv (λ_=>True) hb hs hh trivial λs u K o A B D _=>d s u K o A B D
theorem Akx {S':Type} {c:Code} {o:Option S'} {m:S'->Option β} (d:S->S') (h:o.bind m=some r) (I:S->List (Nat×AV)) (hv:S->List (Nat×Bm)) (A:∀x,o=some x->∀(K:Nat->B7->Hp->Prop),(∀s B j k,d s=x->Hc j (I s)->Hi k (Cp H (hv s)) n n->K B j k)->(∀y,y=x->m y=some r)->wc P C c K U V n e H) (D:∀(s:S) (u:Nat->Value),m (d s)=some r->X n (Kl (He c) e u (I s)) (Cp H (hv s))) (hb:∀s,K5 n (I s) (hv s)=true:=by exact λ_=>rfl):wc P C c X U V n e H := Apm h λx L q=>Rh (λs=>d s=x) I hv hb (λK M=>A x L K M q) λs u hs=>D s u (q _ hs)
theorem N8 {c:Code} {o:Option S} {m:S->Option β} (h:o.bind m=some r) (I:S->List (Nat×AV)) (hv:S->List (Nat×Bm)) (k:∀x,o=some x->∀(K:Nat->B7->Hp->Prop),(∀s q d j,s=x->Hc d (I s)->Hi j (Cp H (hv s)) n n->K q d j)->(∀y,y=x->m y=some r)->wc P C c K U V n e H) (A:∀(s:S) (u:Nat->Value),m s=some r->X n (Kl (He c) e u (I s)) (Cp H (hv s))) (hb:∀s,K5 n (I s) (hv s)=true:=by exact λ_=>rfl):wc P C c X U V n e H:=Akx (λs=>s) h I hv k A hb
abbrev C0:Cfg:={T:=Cl,an:=λ_=>.ask}
theorem pw {f:FuncId} {c:Code} {args:List AV} {r:AV} (C:Cfg) (k:prog.funcs[f]? = some fn) (hv:wc prog C c (λ_ e H=>Tc C.T fn.results.toList (· = r) e H) (λ_ _ _ _=>False) (λ_ e H=>Tc C.T fn.results.toList (· = r) e H) 0 (V6 args) H0) (q:C.T=Cl:=by exact rfl) (hb:fn.body=some c:=by exact rfl) (d:(fn.name == "runtime.NumGoroutine")=false:=by kernel_rfl) (j:V7 fn c args.length=true:=by kernel_rfl) (h:r.free=true:=by exact rfl):A8 prog f args r:=A19 (by rw[q];exact Ap8) Yu k hb d j h hv
theorem aw {f:FuncId} {c:Code} {args:List AV} {r:AV} {hs':List Bm} (C:Cfg) (j:Bool) (q:prog.funcs[f]? = some fn) (hv:wc prog C c (λ_ e H=>Tf C.T j fn.results.toList r hs' e H) (λ_ _ _ _=>False) (λ_ e H=>Tf C.T j fn.results.toList r hs' e H) hs.length (V6 args) (hp hs)) (s:C.T=Cl:=by exact rfl) (hb:fn.body=some c:=by exact rfl) (d:(fn.name == "runtime.NumGoroutine")=false:=by kernel_rfl) (k:V7 fn c args.length=true:=by kernel_rfl) (h:Ajp hs r hs'=true:=by exact rfl):Bk prog f args hs r hs':=A2a j (by rw[s];exact Ap8) Yu q hb d k h hv
end
variable {P Q:Prop}
theorem opk {P:Program} {T:Dq} {an:Nat->Ann} {nl:Nat->List (Nat×Nat)} {o:Oper} {n:Nat} {e:B7} {H:Hp} {acc:Lf} {K:Nat->B7->Hp->Lf->Prop} (k:opK P T an nl o n e H acc K):opK P T an nl o n e H acc K:=k
theorem cnd {t:Bool} {A B:Prop} (k:bif t then A else B):bif t then A else B:=k
structure Hd (Q:Prop):Prop where
 get:Q
theorem Z (k:Q) (h:Hd Q->P:=by
  intro q
  repeat first
    | ((with_reducible show Ga (Fy _ _ _ _ _ (_::_) _ _ _ _ _));(first|refine nx ?_|refine Ra ?_|refine Q9 ?_))
    | ((with_reducible refine opk ?_);conv=>whnf
       first
      | ((with_reducible show Ga _);refine nw ?_)
      | ((with_reducible show I8 _ _ _);refine I8.mk _ rfl ?_)
      | ((with_reducible show Nq _ _);refine R9 ?_)
      | ((with_reducible show My _ _ _ _);refine Sc ?_)
      | ((with_reducible show Ie _ _ _);(first|refine Sa ?_|refine Sb ?_)))
    | ((with_reducible show Ga (Fy _ _ _ _ _ [] _ _ _ _ _));refine Lu ?_)
    | ((with_reducible show Ga (wc _ _ _ _ _ _ _ _ _));refine nw ?_)
    | with_reducible refine A9 ?_
    | with_reducible refine Gz ?_
    | with_reducible refine Ajx ?_
    | with_reducible refine Nt ?_
    | with_reducible refine M2 ?_
    | with_reducible refine H9 ?_
    | with_reducible refine Ap0 ?_
    | with_reducible refine Ajz ?_
    | with_reducible refine Ajy ?_
    | ((with_reducible refine cnd ?_);first|refine H7 rfl ?_|refine Aji rfl ?_)
    | ((with_reducible show On _ _ _);refine On.mk κ ?_)
    | ((with_reducible show wc _ _ (.cond _ _ _) _ _ _ _ _ _);first|refine Ad8 ?_|refine Ad9 ?_)
    | refine nw ?_
    | refine nx ?_
    | refine Lu ?_
    | refine Ra ?_
    | refine Q9 ?_
    | (conv=>whnf
       first
      | ((with_reducible show Ga _);refine nw ?_)
      | ((with_reducible show I8 _ _ _);refine I8.mk _ rfl ?_)
      | ((with_reducible show Nq _ _);refine R9 ?_)
      | ((with_reducible show My _ _ _ _);refine Sc ?_)
      | ((with_reducible show Ie _ _ _);(first|refine Sa ?_|refine Sb ?_)))
  exact q.get):P:=h ⟨k⟩
theorem ZS (k:Q) (h:Hd Q->P:=by
  intro q
  repeat first
    | ((with_reducible show Ga (Fy _ _ _ _ _ (_::_) _ _ _ _ _));(first|refine nx ?_|refine Ra ?_|refine Q9 ?_))
    | ((with_reducible refine opk ?_);conv=>whnf
       first
      | ((with_reducible show Ga _);refine nw ?_)
      | ((with_reducible show I8 _ _ _);refine I8.mk _ rfl ?_)
      | ((with_reducible show Nq _ _);refine R9 ?_)
      | ((with_reducible show My _ _ _ _);refine Sc ?_)
      | ((with_reducible show Ie _ _ _);(first|refine Sa ?_|refine Sb ?_)))
    | ((with_reducible show Ga (Fy _ _ _ _ _ [] _ _ _ _ _));refine Lu ?_)
    | ((with_reducible show Ga (wc _ _ _ _ _ _ _ _ _));refine nw ?_)
    | with_reducible refine A9 ?_
    | with_reducible refine Ajx ?_
    | with_reducible refine Nt ?_
    | with_reducible refine M2 ?_
    | with_reducible refine H9 ?_
    | with_reducible refine Ajz ?_
    | with_reducible refine Ajy ?_
    | ((with_reducible refine cnd ?_);first|refine H7 rfl ?_|refine Aji rfl ?_)
    | ((with_reducible show On _ _ _);refine On.mk κ ?_)
    | ((with_reducible show wc _ _ (.cond _ _ _) _ _ _ _ _ _);first|refine Ad8 ?_|refine Ad9 ?_)
    | refine nw ?_
    | refine nx ?_
    | refine Lu ?_
    | refine Ra ?_
    | refine Q9 ?_
    | (conv=>whnf
       first
      | ((with_reducible show Ga _);refine nw ?_)
      | ((with_reducible show I8 _ _ _);refine I8.mk _ rfl ?_)
      | ((with_reducible show Nq _ _);refine R9 ?_)
      | ((with_reducible show My _ _ _ _);refine Sc ?_)
      | ((with_reducible show Ie _ _ _);(first|refine Sa ?_|refine Sb ?_)))
  exact q.get):P:=h ⟨k⟩
theorem ZO (k:Q) (h:Hd Q->P:=by
  intro q
  repeat first
    | ((with_reducible show Ga (Fy _ _ _ _ _ (_::_) _ _ _ _ _));(first|refine nx ?_|refine Ra ?_|refine Q9 ?_))
    | ((with_reducible refine opk ?_);conv=>whnf
       first
      | ((with_reducible show I8 _ _ _);refine I8.mk _ rfl ?_)
      | ((with_reducible show Nq _ _);refine R9 ?_)
      | ((with_reducible show My _ _ _ _);refine Sc ?_)
      | ((with_reducible show Ie _ _ _);(first|refine Sa ?_|refine Sb ?_)))
    | ((with_reducible show Ga (Fy _ _ _ _ _ [] _ _ _ _ _));refine Lu ?_)
    | ((with_reducible show On _ _ _);refine On.mk κ ?_)
    | refine nx ?_
    | refine Lu ?_
    | refine Ra ?_
    | refine Q9 ?_
    | (conv=>whnf
       first
      | ((with_reducible show I8 _ _ _);refine I8.mk _ rfl ?_)
      | ((with_reducible show Nq _ _);refine R9 ?_)
      | ((with_reducible show My _ _ _ _);refine Sc ?_)
      | ((with_reducible show Ie _ _ _);(first|refine Sa ?_|refine Sb ?_)))
  exact q.get):P:=h ⟨k⟩
theorem Y (h:P:=by
  repeat' first
    | ((with_reducible show Ga (Fy _ _ _ _ _ (_::_) _ _ _ _ _));first|refine nx ?_|refine Ra ?_|refine Q9 ?_|refine Ij h (λ_ h=>?_) λ_ h=>?_)
    | ((with_reducible refine opk ?_);conv=>whnf
       first
      | ((with_reducible show Ga _);refine nw ?_)
      | ((with_reducible show I8 _ _ _);refine I8.mk _ rfl ?_)
      | ((with_reducible show Nq _ _);refine R9 ?_)
      | ((with_reducible show Fx _ _ _ _ _ _);(first|refine R8 h (λ_ h=>?_) | refine Aqi h λ_ h=>?_))
      | ((with_reducible show Vv _ _ _);refine O7 h λ_ _ _ _ h=>?_)
      | ((with_reducible show S9 _ _ _ _ _);(first|refine Ia h (λ_ _ _ _ h=>?_) | refine M7 h λ_ _ _ _ h=>?_))
      | ((with_reducible show My _ _ _ _);refine Sc ?_)
      | ((with_reducible show Vy _ _ _ _);refine Aqj ?_)
      | ((with_reducible show No _ _ _ _ _ _ _);(first|refine Aqk h (λ_ h=>?_) | refine Kq h (λ_ h=>?_) | refine Akw h λ_ h=>?_))
      | ((with_reducible show Ta _ _ _);(first|refine Aql h (λ_ h=>?_) | refine Aqm h λ_ h=>?_))
      | ((with_reducible show Vx _ _ _ _ _);refine Jc h λ_ h=>?_)
      | ((with_reducible show Nn _ _ _ _);(first|refine Xe h (λ_ h=>?_) | refine Afl h (λ_ h=>?_) | refine Aqn h (λ_ h=>?_) | refine Ur h λ_ h=>?_))
      | ((with_reducible show Ie _ _ _);(first|refine Sa ?_|refine Sb ?_))
      | ((with_reducible show Adm _ _ _);refine Y1 h λ_ h=>?_)
      | ((with_reducible show Adh _ _ _ _);refine Y0 h λ_ h=>?_)
      | ((with_reducible show Adi _ _ _);refine Ad7 h λ_ h=>?_)
      | ((with_reducible show Adj _ _ _ _);refine Apy h λ_ h=>?_)
      | ((with_reducible show Adk _ _ _ _);refine Ajv h λ_ _ _ _ h=>?_)
      | ((with_reducible show Adn _ _);refine Ir h λh=>?_)
      | ((with_reducible show Ado _ _ _ _ _);refine Apr h λ_ h=>?_)
      | ((with_reducible show Adp _ _ _ _);refine Aps h λ_ h=>?_))
    | ((with_reducible show Ga (Fy _ _ _ _ _ [] _ _ _ _ _));refine Lu ?_)
    | ((with_reducible show Ga (wc _ _ _ _ _ _ _ _ _));refine nw ?_)
    | with_reducible refine A9 ?_
    | with_reducible refine Gz ?_
    | with_reducible refine Ajx ?_
    | with_reducible refine Nt ?_
    | with_reducible refine M2 ?_
    | with_reducible refine H9 ?_
    | with_reducible refine Ap0 ?_
    | with_reducible refine Ajz ?_
    | with_reducible refine Ajy ?_
    | ((with_reducible refine cnd ?_);first|refine H7 rfl ?_|refine Aji rfl ?_)
    | ((with_reducible show wc _ _ (.cond _ _ _) _ _ _ _ _ _);first|refine E3 h (λ_ h=>?_) (λ_ h=>?_) | refine Ad8 ?_|refine Ad9 ?_)
    | ((with_reducible show On _ _ _);refine On.mk κ ?_)
    | refine nx ?_
    | refine Lu ?_
    | refine Ra ?_
    | refine Q9 ?_
    | refine Ij h (λ_ h=>?_) (λ_ h=>?_)
    | exact lpn h
    | exact jnn h
    | replace h:=Cy h
    | replace h:=lpj h
    | refine nw ?_
    | (conv=>whnf
       first
      | ((with_reducible show Ga _);refine nw ?_)
      | ((with_reducible show I8 _ _ _);refine I8.mk _ rfl ?_)
      | ((with_reducible show Nq _ _);refine R9 ?_)
      | ((with_reducible show Fx _ _ _ _ _ _);(first|refine R8 h (λ_ h=>?_) | refine Aqi h λ_ h=>?_))
      | ((with_reducible show Vv _ _ _);refine O7 h λ_ _ _ _ h=>?_)
      | ((with_reducible show S9 _ _ _ _ _);(first|refine Ia h (λ_ _ _ _ h=>?_) | refine M7 h λ_ _ _ _ h=>?_))
      | ((with_reducible show My _ _ _ _);refine Sc ?_)
      | ((with_reducible show Vy _ _ _ _);refine Aqj ?_)
      | ((with_reducible show No _ _ _ _ _ _ _);(first|refine Aqk h (λ_ h=>?_) | refine Kq h (λ_ h=>?_) | refine Akw h λ_ h=>?_))
      | ((with_reducible show Ta _ _ _);(first|refine Aql h (λ_ h=>?_) | refine Aqm h λ_ h=>?_))
      | ((with_reducible show Vx _ _ _ _ _);refine Jc h λ_ h=>?_)
      | ((with_reducible show Nn _ _ _ _);(first|refine Xe h (λ_ h=>?_) | refine Afl h (λ_ h=>?_) | refine Aqn h (λ_ h=>?_) | refine Ur h λ_ h=>?_))
      | ((with_reducible show Ie _ _ _);(first|refine Sa ?_|refine Sb ?_))
      | ((with_reducible show Adm _ _ _);refine Y1 h λ_ h=>?_)
      | ((with_reducible show Adh _ _ _ _);refine Y0 h λ_ h=>?_)
      | ((with_reducible show Adi _ _ _);refine Ad7 h λ_ h=>?_)
      | ((with_reducible show Adj _ _ _ _);refine Apy h λ_ h=>?_)
      | ((with_reducible show Adk _ _ _ _);refine Ajv h λ_ _ _ _ h=>?_)
      | ((with_reducible show Adn _ _);refine Ir h λh=>?_)
      | ((with_reducible show Ado _ _ _ _ _);refine Apr h λ_ h=>?_)
      | ((with_reducible show Adp _ _ _ _);refine Aps h λ_ h=>?_))
    | (have h:=Option.some.inj h;subst h;exact rfl)
    | (cases h;(repeat refine⟨rfl,?_⟩);exact trivial)
    | (cases h;done)
):P:=h
section
variable {P:Program} {C:Cfg} {X:Nat->B7->Hp->Prop} {U:Nat->Nat->B7->Hp->Prop} {V:Nat->B7->Hp->Prop} {n:Nat} {e:B7} {H:Hp} {β:Type} {r:β} {P0 Q:Prop}
variable {t:Bool} {a b:Code} {K:Eff->Nat->Prop} {largs:List AV} {hs:List Bm} {m m':Option β} {S α:Type} {o:Option α} {ra:α->AV} {hs':α->List Bm} {G:α->Prop}
theorem Bi {c:Operand} (h:(bif t then m else m')=some r) (d:t=true->m=some r->wc P C a X U V n e H) (j:t=false->m'=some r->wc P C b X U V n e H) (k:Hd (wc P C (.cond c a b) X U V n e H)->P0:=by exact λq=>Z q.get) (s:ev e c = .val (.bool t):=by exact rfl):P0:=k ⟨E3 h d j s⟩
theorem Ce {c:Operand} (h:(bif t then m else m')=some r) (d:t=false->m'=some r->wc P C b X U V n e H) (j:Hd (wc P C (.cond c a b) X U V n e H)->P0:=by exact λq=>Z q.get) (k:ev e c = .val (.bool t):=by exact rfl) (s:t=true->m=some r->wc P C a X U V n e H:=by intro _ h;exact Y):P0:=j ⟨E3 h s d k⟩
theorem Bc {E:Type} {step:S->Option (S⊕E)} {s0:S} {J:E->Option β} (h:(Ak step s0).bind J=some r) (I:S->List (Nat×AV)) (hv:S->List (Nat×Bm)) (d:∀(s:S) (u:Nat->Value) (K:Nat->B7->Hp->Prop) (o:S⊕E),step s=some o->(∀x,.inr x=o->J x=some r)->(∀j A k y,.inl j=o->Hc k (I j)->Hi y (Cp H (hv j)) n n->True->K A k y) -> wc P C b K U V n (Kl (He b) e u (I s)) (Cp H (hv s))) (B:Hd (wc P C (.loop b) X U V n e H)->P0:=by exact λq=>Z q.get) (hb:∀s,K5 n (I s) (hv s)=true:=by exact λ_=>rfl) (hs:Hc e (I s0):=by (repeat refine⟨rfl,?_⟩);exact trivial) (hh:Hi H (Cp H (hv s0)) n n:=by (repeat refine⟨⟨rfl,rfl⟩,?_⟩);exact trivial):P0:=B ⟨Aqo h I hv d hb hs hh⟩
theorem Bo {m:α->Option β} {f:FuncId} {args:List AV} (h:o.bind m=some r) [i:OK o G] (k:∀v,m v=some r->K ⟨ra v,[],[]⟩ n) (d:Hd (Fx P n H f args K)->P0:=by exact λq=>Z q.get) (j:∀v,G v->A8 P f args (ra v):=by exact λ_ h=>h) (s:args.all AV.free=true:=by exact rfl):P0:=d ⟨R8 h k j s⟩
theorem Bz {l:List α} {f:α->AV} {ys:List AV} {i:Int} {m:α->Option β} {K:Nat->AV->Prop} (h:(Ag l i).bind m=some r) (k:∀(n:Nat) (x:α),i=n->l[n]? = some x->m x=some r->K n (f x)) (d:Hd (Vv ys i K)->P0:=by exact λq=>Z q.get) (j:ys=l.map f:=by first|exact rfl|exact Li _|exact Lj _|exact Jo _):P0:=d ⟨Apn j h k⟩
theorem De {m:α->Option β} {f:FuncId} {args:List AV} (l:List Nat) (h:o.bind m=some r) [i:OK o G] (k:∀v,m v=some r->K ⟨ren (Df n l) (ra v),E2 (Df n l) 0 hs++Cq (Df n l) l.length ((hs' v).length-l.length),E2 (Df n l) 0 (hs' v)⟩ (n+((hs' v).length-l.length))) (d:Hd (Fx P n H f args K)->P0:=by exact λq=>Z q.get) (j:∀v,G v->Bk P f largs hs (ra v) (hs' v):=by exact λ_ h=>h) (s:largs.map (ren (Df n l))=args:=by exact rfl) (ok:∀v,K4 n l largs hs (ra v) (hs' v)=true:=by exact λ_=>rfl) (hh:Nm H (E2 (Df n l) 0 hs):=by (repeat refine⟨rfl,?_⟩);exact trivial):P0:=d ⟨N7 l h k j s ok hh⟩
theorem Ca {m:α->Option β} {f:FuncId} {args:List AV} (l:List Nat) (h:o.bind m=some r) [i:OK o G] (d:Hd (Fx P n H f args K)->P0:=by exact λq=>Z q.get) (j:∀v,G v->Bk P f largs hs (ra v) (hs' v):=by exact λ_ h=>h) (s:largs.map (ren (Df n l))=args:=by exact rfl) (ok:∀v,K4 n l largs hs (ra v) (hs' v)=true:=by exact λ_=>rfl) (hh:Nm H (E2 (Df n l) 0 hs):=by (repeat refine⟨rfl,?_⟩);exact trivial) (k:∀v,m v=some r->K ⟨ren (Df n l) (ra v),E2 (Df n l) 0 hs++Cq (Df n l) l.length ((hs' v).length-l.length),E2 (Df n l) 0 (hs' v)⟩ (n+((hs' v).length-l.length)):=by
 intro _ h
 exact Y):P0:=d ⟨N7 l h k j s ok hh⟩
theorem Dh {c:Code} {o:Option S} {m:S->Option β} (h:o.bind m=some r) (I:S->List (Nat×AV)) (hv:S->List (Nat×Bm)) (k:∀(s:S) (u:Nat->Value),m s=some r->X n (Kl (He c) e u (I s)) (Cp H (hv s))) (hb:∀s,K5 n (I s) (hv s)=true:=by exact λ_=>rfl) (q:∀x,o=some x->∀(K:Nat->B7->Hp->Prop),(∀s A d j,s=x->Hc d (I s)->Hi j (Cp H (hv s)) n n->K A d j)->(∀y,y=x->m y=some r)->wc P C c K U V n e H:=by
 intro _ h _ _ _
 exact Y):wc P C c X U V n e H:=N8 h I hv q k hb
theorem ZR {id:Nat} {os:List Oper} (k:Q) (d:Hd (wc P C (.region id os.toArray false) X U V n e H)->P0:=by exact λq=>ZS q.get) (h:Hd Q->Ga (Fy P C.T C.an C.nl os.toArray os n e H [] λn e H _=>X n e H):=by exact λq=>ZO q.get):P0:=d ⟨Gz (h ⟨k⟩)⟩
end
set_option maxRecDepth 10000
theorem A2v {a0 r:List Bq} (h:B8 16 [] a0=some r):A8 prog 197 [Ax 2 E7 a0] (Ax 2 E7 r):=by
 have h:((B8 16 [] a0).bind λo=>some o)=some r:=by rw[h];rfl
 refine pw {T:=Cl,an:=(λs=>bif Nat.beq s 5 then .own else .ask),nl:=(λs=>bif Nat.beq s 2 then [(0,2)] else [])} func197 ?_;refine A9 ?_;refine Gz ?_;refine ZO ?_;refine A9 (A9 ?_);refine Rh (λb:Bool=>b=true->a0 = []) (λb=>[(4,Aw b)]) (λ_=>[]) (λ_=>rfl) ?_ ?_
 .intro K j;refine V9 0 ?_;intro v hv;obtain⟨p,c,rfl,hp⟩:=hv 2 (a0.map E7) rfl;refine Gz ?_;refine nx ?_;refine nx ?_;refine Lu ?_;refine j p.isNone _ _ _ (λe=>?_) ⟨rfl,trivial⟩ trivial;cases p with| none=>simpa using hp rfl| some _=>cases e
 .rintro b _ d;cases b with
  | true=>have d:=d rfl;subst d;have h:some ([]:List Bq)=some r:=(by rw[<-h];rfl);exact Y
  | false=>refine Z ?_;exact Y
theorem A2w {a0:List Bq} {r:List Bq×List Bq} (h:Kn 16 a0=some r):Bk prog 197 [Ax 2 E7 a0] [] (.arr 1 r.2.length 0 r.2.length) [.rows 99 2 (r.1.map E7),.rows 99 2 (r.2.map E7)]:=by
 have h:((B8 16 [] a0).bind λo=>some (([]:List Bq),o))=some r:=h;refine aw {T:=Cl,an:=(λs=>bif Nat.beq s 5 then .own else bif Nat.beq s 2 then .own else .ask),nl:=(λ_=>[])} false func197 ?_;refine A9 ?_;refine Gz ?_;refine ZO ?_;refine A9 (A9 ?_);refine Rh (λb:Bool=>b=true->a0 = []) (λb=>[(4,Aw b)]) (λ_=>[]) (λ_=>rfl) ?_ ?_
 .intro K j;refine V9 0 ?_;intro v hv;obtain⟨p,c,rfl,hp⟩:=hv 2 (a0.map E7) rfl;refine Gz ?_;refine nx ?_;refine nx ?_;refine Lu ?_;refine j p.isNone _ _ _ (λe=>?_) ⟨rfl,trivial⟩ ⟨⟨rfl,rfl⟩,trivial⟩;cases p with| none=>simpa using hp rfl| some _=>cases e
 .rintro b _ d;cases b with
  | true=>have d:=d rfl;subst d;have h:some (([]:List Bq),([]:List Bq))=some r:=(by rw[<-h];rfl);cases h;refine ZO ?_;exact Y
  | false=>refine Z ?_;refine ZO ?_;refine Kq h λ_ h=>?_;exact Y
theorem A2x {a0:List Be} {r:List Be×List Be} (h:Kn 40 a0=some r):Bk prog 110 [Ax 3 Gb a0] [] (.arr 1 r.2.length 0 r.2.length) [.rows 74 3 (r.1.map Gb),.rows 74 3 (r.2.map Gb)]:=by
 have h:((B8 40 [] a0).bind λo=>some (([]:List Be),o))=some r:=h;refine aw {T:=Cl,an:=(λs=>bif Nat.beq s 5 then .own else bif Nat.beq s 2 then .own else .ask),nl:=(λ_=>[])} false func110 ?_;refine A9 ?_;refine Gz ?_;refine ZO ?_;refine A9 (A9 ?_);refine Rh (λb:Bool=>b=true->a0 = []) (λb=>[(4,Aw b)]) (λ_=>[]) (λ_=>rfl) ?_ ?_
 .intro K j;refine V9 0 ?_;intro v hv;obtain⟨p,c,rfl,hp⟩:=hv 3 (a0.map Gb) rfl;refine Gz ?_;refine nx ?_;refine nx ?_;refine Lu ?_;refine j p.isNone _ _ _ (λe=>?_) ⟨rfl,trivial⟩ ⟨⟨rfl,rfl⟩,trivial⟩;cases p with| none=>simpa using hp rfl| some _=>cases e
 .rintro b _ d;cases b with
  | true=>have d:=d rfl;subst d;have h:some (([]:List Be),([]:List Be))=some r:=(by rw[<-h];rfl);cases h;refine ZO ?_;exact Y
  | false=>refine Z ?_;refine ZO ?_;refine Kq h λ_ h=>?_;exact Y
theorem A2y {a0:List Bf} {r:List Bf×List Bf} (h:Kn 40 a0=some r):Bk prog 116 [Ax 3 F2 a0] [] (.arr 1 r.2.length 0 r.2.length) [.rows 97 3 (r.1.map F2),.rows 97 3 (r.2.map F2)]:=by
 have h:((B8 40 [] a0).bind λo=>some (([]:List Bf),o))=some r:=h;refine aw {T:=Cl,an:=(λs=>bif Nat.beq s 5 then .own else bif Nat.beq s 2 then .own else .ask),nl:=(λ_=>[])} false func116 ?_;refine A9 ?_;refine Gz ?_;refine ZO ?_;refine A9 (A9 ?_);refine Rh (λb:Bool=>b=true->a0 = []) (λb=>[(4,Aw b)]) (λ_=>[]) (λ_=>rfl) ?_ ?_
 .intro K j;refine V9 0 ?_;intro v hv;obtain⟨p,c,rfl,hp⟩:=hv 3 (a0.map F2) rfl;refine Gz ?_;refine nx ?_;refine nx ?_;refine Lu ?_;refine j p.isNone _ _ _ (λe=>?_) ⟨rfl,trivial⟩ ⟨⟨rfl,rfl⟩,trivial⟩;cases p with| none=>simpa using hp rfl| some _=>cases e
 .rintro b _ d;cases b with
  | true=>have d:=d rfl;subst d;have h:some (([]:List Bf),([]:List Bf))=some r:=(by rw[<-h];rfl);cases h;refine ZO ?_;exact Y
  | false=>refine Z ?_;refine ZO ?_;refine Kq h λ_ h=>?_;exact Y
theorem A2z {a0:List Ah} {r:List Ah×List Ah} (h:Kn 32 a0=some r):Bk prog 323 [Ax 2 Fu a0] [] (.arr 1 r.2.length 0 r.2.length) [.rows 72 2 (r.1.map Fu),.rows 72 2 (r.2.map Fu)]:=by
 have h:((B8 32 [] a0).bind λo=>some (([]:List Ah),o))=some r:=h;refine aw {T:=Cl,an:=(λs=>bif Nat.beq s 5 then .own else bif Nat.beq s 2 then .own else .ask),nl:=(λ_=>[])} false func323 ?_;refine A9 ?_;refine Gz ?_;refine ZO ?_;refine A9 (A9 ?_);refine Rh (λb:Bool=>b=true->a0 = []) (λb=>[(4,Aw b)]) (λ_=>[]) (λ_=>rfl) ?_ ?_
 .intro K j;refine V9 0 ?_;intro v hv;obtain⟨p,c,rfl,hp⟩:=hv 2 (a0.map Fu) rfl;refine Gz ?_;refine nx ?_;refine nx ?_;refine Lu ?_;refine j p.isNone _ _ _ (λe=>?_) ⟨rfl,trivial⟩ ⟨⟨rfl,rfl⟩,trivial⟩;cases p with| none=>simpa using hp rfl| some _=>cases e
 .rintro b _ d;cases b with
  | true=>have d:=d rfl;subst d;have h:some (([]:List Ah),([]:List Ah))=some r:=(by rw[<-h];rfl);cases h;refine ZO ?_;exact Y
  | false=>refine Z ?_;refine ZO ?_;refine Kq h λ_ h=>?_;exact Y
theorem A20 {a0:List Int} {r:List Int×List Int} (h:Kn 8 a0=some r):Bk prog 18 [Ax 1 (O .i64) a0] [] (.arr 1 r.2.length 0 r.2.length) [.rows 3 1 (r.1.map (O .i64)),.rows 3 1 (r.2.map (O .i64))]:=by
 have h:((B8 8 [] a0).bind λo=>some (([]:List Int),o))=some r:=h;refine aw {T:=Cl,an:=(λs=>bif Nat.beq s 5 then .own else bif Nat.beq s 2 then .own else .ask),nl:=(λ_=>[])} false func18 ?_;refine A9 ?_;refine Gz ?_;refine ZO ?_;refine A9 (A9 ?_);refine Rh (λb:Bool=>b=true->a0 = []) (λb=>[(4,Aw b)]) (λ_=>[]) (λ_=>rfl) ?_ ?_
 .intro K j;refine V9 0 ?_;intro v hv;obtain⟨p,c,rfl,hp⟩:=hv 1 (a0.map (O .i64)) rfl;refine Gz ?_;refine nx ?_;refine nx ?_;refine Lu ?_;refine j p.isNone _ _ _ (λe=>?_) ⟨rfl,trivial⟩ ⟨⟨rfl,rfl⟩,trivial⟩;cases p with| none=>simpa using hp rfl| some _=>cases e
 .rintro b _ d;cases b with
  | true=>have d:=d rfl;subst d;have h:some (([]:List Int),([]:List Int))=some r:=(by rw[<-h];rfl);cases h;refine ZO ?_;exact Y
  | false=>refine Z ?_;refine ZO ?_;refine Kq h λ_ h=>?_;exact Y
end Go.Ab
namespace Go.Ab
open Go Go.Proofs Go.Shelf Go.Proofs.Tryz
set_option maxRecDepth 100000
set_option linter.unusedVariables false
variable {F σ:A7} {ι:Cb} {H:Hp} {w:World}
def A21:Ren:={f:=λx=>match x with|189=>19|125=>53|257=>52|128=>106|129=>107|294=>97|295=>98|296=>99|297=>100|298=>101|299=>102|216=>103|300=>104|301=>105|328=>174|329=>175|330=>176|331=>177|332=>178|215=>179|343=>235|n=>n,t:=λx=>match x with|28=>29|3=>3|46=>122|0=>0|51=>141|53=>140|4=>4|183=>169|182=>168|131=>174|5=>5|9=>9|218=>250|222=>108|228=>319|229=>320|n=>n,g:=λn=>n}
theorem A22:Lays.n189 prog A21:=by
 constructor;all_goals first|kernel_rfl | (intro w;kernel_rfl) | constructor
 all_goals first|kernel_rfl | (intro w;kernel_rfl)
theorem C4.up {w':World} {x:Nat} (h:C4 σ ι H F w x) (hk:∀(b:Nat) (o:Obj),w.heap[b]? = some o->w'.heap[b]? = some o):C4 σ ι H F w' x:=by
 unfold C4 at h ⊢;cases hx:H x with
 | none=>rw[hx]at h;exact h
 | dead=>trivial
 | cells E cs=>rw[hx]at h;obtain⟨b,C,h1,h2,h3,g,f⟩:=h;exact⟨b,C,h1,h2,h3,hk _ _ g,f⟩
 | rows E sz xs=>
  rw[hx]at h;obtain⟨h0,h1,h2⟩:=h;refine⟨h0,h1,?_⟩;rcases h2 with h2|⟨b,c,C,q,l,k,j,i⟩
  .exact .inl h2
  .exact .inr ⟨b,c,C,q,l,k,hk _ _ j,i⟩
 | map es=>rw[hx]at h;obtain⟨b,M,t,h1,h2,h3,g,f⟩:=h;exact⟨b,M,t,h1,h2,h3,hk _ _ g,f⟩
theorem St.growG {W:World} (s:St σ ι H F W w) (k:Nat) (os:Array Obj):St σ ι H F W (Sort.grow (Sort.ahead w k) os):=by
 have hk:∀(b:Nat) (o:Obj),w.heap[b]? = some o->(Sort.grow (Sort.ahead w k) os).heap[b]? = some o:=by intro b o h;have d:=(Array.getElem?_eq_some_iff.1 h).1;show (w.heap++os)[b]? = _;rw[Array.getElem?_append_left d];exact h
 exact⟨λb o h=>hk b o (s.sto b o h),λb o h=>⟨hk b o (s.fra b o h).1,(s.fra b o h).2⟩,λh=>(s.obj h).up hk,s.inj,s.os,s.tape,s.output,s.glo,Nat.le_trans s.drw (Nat.le_add_right _ _)⟩
theorem Aqp {α:Type} [Inhabited α] (enc:α->Value) (w:World) (b:Nat) (d:Array α) (C:Array Value) (E:TypeId) (h:w.heap[b]? = some (.cells C E (0,0))):Sort.putRow enc w b 0 d=w.setRow b (Sort.putCells enc 0 d C):=by
 have c:(Sort.putRow enc w b 0 d).heap=(w.setRow b (Sort.putCells enc 0 d C)).heap:=by
  apply Array.ext_getElem?;intro i;simp only[Sort.putRow,Sort.mapBlock,World.setRow,Array.getElem?_modify];split
  .rename_i e;subst e;rw[h];simp[Sort.onCells]
  .rfl
 unfold Sort.putRow Sort.mapBlock World.setRow at c ⊢;simp only at c;rw[c]
theorem A23 {b r:List Int} (h:Apk b=some r) (M:b≠[]):Bk prog 19 [.arr 0 b.length 0 b.length] [.rows 3 1 (map (O .i64) b)] (.tup []) [.rows 3 1 (map (O .i64) r)]:=by
 cases h
 .skip;refine⟨⟨_,func19,κ,κ⟩,λσ F W w ι vs s J=>?_⟩;obtain⟨v,rfl,hv⟩:=Uq J;have hh:hp [.rows 3 1 (map (O .i64) b)] 0 = .rows 3 1 (map (O .i64) b):=rfl;have l:=hv.arr_inv hh ψ;have d:=s.obj 0;unfold C4 at d;rw[hh]at d;obtain⟨_,G,d⟩:=d;rw[length_map]at G;rcases d with⟨_,E⟩|⟨g,q,D,hg,g1,g2,g3,g4,g5,g6⟩
  .exact (M (by simpa using E)).elim
  .rw[length_map]at g5;unfold Hq at l;rw[hg]at l;simp only[Nat.zero_mul,Nat.zero_add,Nat.sub_zero]at l;obtain⟨ht,B⟩:=l;subst B;have k:∀(j:Nat) (x:Int),b[j]? = some x->D[j]? = some (Value.int .i64 x):=(by intro j x hx;obtain⟨X,q1,Z,Y⟩:=g6;have A:(map (O .i64) b)[j]? = some (O .i64 x):=(by rw[getElem?_map,hx];rfl);have a1:j<(map (O .i64) b).length:=(List.getElem?_eq_some_iff.1 A).1;have U:=Y j 0 a1 ω;have S:=(Z j _ 0 _ A rfl).1;have:X j 0=Value.int .i64 x:=(by generalize X j 0=z at S;cases S;rfl);rw[this]at U;simpa using U);have hH:Sort.Holds (Value.int .i64) w g 0 b.toArray:=by
    intro j hj;have a2:j<b.length:=(by simpa using hj);have hx:b[j]? = some b[j]:=getElem?_eq_getElem a2;have hD:=k j _ hx;have e1:b.toArray[j]! = b[j]:=(by rw[getElem!_pos b.toArray j hj];simp);rw[e1];refine⟨?_,?_⟩
    .rw[Nat.zero_add,Kz g3];exact hD
    .simp[World.frozen?,g3]
   have call:=Any.slices_Sort_int A22 g 0 q b w hH (Array.getElem?_eq_some_iff.1 g3).1 ω;refine call.mono ?_;rintro e w' ⟨rfl,n,os,rfl⟩;generalize hr:b.mergeSort (λx y=>decide (x<=y))=r;have I:r.length=b.length:=(by rw[<-hr];exact length_mergeSort b);have L:(Sort.putCells (Value.int .i64) 0 r.toArray D).size=q*1:=(by unfold Sort.putCells;rw[Array.size_mapIdx];exact g4);obtain⟨s',le⟩:=s.setRows 0 3 1 _ (map (O .i64) r) hh g q hg (by simp[I]) (Sort.putCells (Value.int .i64) 0 r.toArray D) L (by
    refine⟨λi _=>match r[i]? with|some z=>.int .i64 z|none=>.bool false,?_,?_,?_⟩
    .intro i x hx;rw[getElem?_map]at hx;obtain⟨z,V,rfl⟩:=Option.map_eq_some_iff.1 hx;rfl
    .intro i x j c hx f;rw[getElem?_map]at hx;obtain⟨z,V,rfl⟩:=Option.map_eq_some_iff.1 hx;have f:([O .i64 z]:List AV)[j]? = some c:=f
     match j with| 0=>cases f;simp only[V];exact⟨.val _,rfl⟩| j+1=>simp at f
    .intro i j hi hj;have N:j=0:=ω;subst N;have u:i<r.length:=(by simpa using hi);have R:i<D.size:=(by rw[g4];omega);simp only[Nat.mul_one,Nat.add_zero,getElem?_eq_getElem u];unfold Sort.putCells;rw[Array.getElem?_mapIdx,Array.getElem?_eq_getElem R];simp only[Option.map_some,Nat.zero_le,true_and,Nat.zero_add,size_toArray,u,if_true,Nat.sub_zero];congr 2;rw[getElem!_pos r.toArray i (by simpa using u)];simp)
   have eH:Az (hp [.rows 3 1 (map (O .i64) b)]) 0 (.rows 3 1 (map (O .i64) r))=hp [.rows 3 1 (map (O .i64) r)]:=by
    funext i
    match i with| 0=>rfl| i+1=>rfl
   rw[eH]at le s';have eW:Sort.grow (Sort.putRow (Value.int .i64) (Sort.ahead w n) g 0 r.toArray) os=Sort.grow (Sort.ahead (w.setRow g (Sort.putCells (Value.int .i64) 0 r.toArray D)) n) os:=(by rw[Aqp (Value.int .i64) (Sort.ahead w n) g r.toArray D 3 g3];rfl);rw[eW];exact⟨_,σ,ι,rfl,le,s'.growG n os,.tup _ _ rfl (λi c v h1 _=>by cases h1)⟩
end Go.Ab
namespace Go.Ab
open Go Go.Proofs Go.Shelf Go.Sort Go.Proofs.Tryz
set_option maxRecDepth 100000
set_option linter.unusedVariables false
variable {σ:A7} {g:Nat} {α:Type} {v:Value} {b l r:List α} {eA:α->AV} {cmp:α->α->Option Int}
theorem A24 (h:Fi v=true):v.oneCell'=true:=by cases v <;> first|rfl|cases h
theorem A25 {ι:Cb} {H:Hp} {f:FuncId} (h:Conc σ ι H (.fn f []) v):v = .func (.func f) #[] #[]:=by cases h with| cc h=>cases h| fn _ _ vs b _=>have:vs = #[]:=Array.size_eq_zero_iff.1 (by simpa using b);rw[this]
def Aqq (σ:A7) (eA:α->AV) (sz:Nat) (S:List α) (x:α) (c:List Value):Prop := x∈S/\(eA x).cells.length=sz/\c.length=sz/\∀(j:Nat) (a:AV) (v:Value),(eA x).cells[j]? = some a->c[j]? = some v->CC σ a v/\Fi v=true
abbrev O8 {α:Type} (σ:A7) (eA:α->AV) (sz:Nat) (S:List α):Type:={p:α×List Value // Aqq σ eA sz S p.1 p.2}
theorem A26 {W w':World} (g:∀b o,W.heap[b]? = some o->σ b=some o) (s:St σ ι0 H0 (λ_=>none) W w'):∃q f,w'=grow (W.drewN q) f:=by
 have y:∀b o,W.heap[b]? = some o->w'.heap[b]? = some o:=λb o h=>s.sto b o (g b o h);have j:W.heap.size<=w'.heap.size:=by
  rcases Nat.eq_zero_or_pos W.heap.size with h|h
  .omega
  .have:=y (W.heap.size-1) _ (Array.getElem?_eq_getElem ω);have:=(Array.getElem?_eq_some_iff.1 this).1;omega
 refine⟨w'.drawn-W.drawn,w'.heap.extract W.heap.size w'.heap.size,?_⟩;have c:w'.heap=W.heap++w'.heap.extract W.heap.size w'.heap.size:=by
  apply Array.ext_getElem?;intro i;by_cases hi:i<W.heap.size
  .rw[Array.getElem?_append_left hi,Array.getElem?_eq_getElem hi];exact y i _ (Array.getElem?_eq_getElem hi)
  .rw[Array.getElem?_append_right ω];by_cases M:i<w'.heap.size
   .rw[Array.getElem?_eq_getElem M,Array.getElem?_eq_getElem ζ];simp only[Array.getElem_extract];congr 2;omega
   .rw[Array.getElem?_eq_none ω,Array.getElem?_eq_none ζ]
 have A:=s.os;have B:=s.tape;have D:=s.output;have k:=s.drw;cases w' with| mk I L u os d=>simp only at A B D k c;unfold grow World.drewN;simp only[World.mk.injEq];exact⟨c,B,ω,A,D⟩
theorem Aky {ρ:Ren} {E:TypeId} {sz f:Nat} (L:SlLaysF0.n6 prog ρ) (hf:ρ.f 6=f) (a1:Yn prog f) (aE:∀w,(isAgg (ρ.t 24)).run prog w = .ok true w) (zE:∀w,(Go.sizeOf (ρ.t 24)).run prog w = .ok sz w) (eg:∀args w,(callFunc g args).run prog w = .ok (.enter g args) w) (aq:∀x y n,cmp x y=some n->A8 prog g [eA x,eA y] (O .i64 n)) (av:∀x,∃cs,eA x = .agg cs) (h:∃o,Jn cmp l o) (ag:l≠[]) : Nl prog f [.arr 0 l.length 0 l.length,.fn g []] [.rows E sz (l.map eA)] (λa b5=>∃o,Jn cmp l o/\a = .tup []/\b5 = [.rows E sz (o.map eA)]):=by
 obtain⟨_,cf,a5,ar,_⟩:=h;refine⟨a1,λσ F W w ι vs s ap=>?_⟩;obtain⟨v,v2,rfl,hv,az⟩:=Aku ap;obtain rfl:=A25 az;have hh:hp [.rows E sz (l.map eA)] 0 = .rows E sz (l.map eA):=rfl;have I:=hv.arr_inv hh ψ;have a4:=s.obj 0;unfold C4 at a4;rw[hh]at a4;obtain⟨M,ai,a4⟩:=a4;rw[length_map]at ai;rcases a4 with⟨_,ae⟩|⟨b,R,D,hb,g1,g2,g3,g4,g5,g6⟩
 .exact (ag (by simpa using ae)).elim
 rw[length_map]at g5;unfold Hq at I;rw[hb]at I;simp only[Nat.zero_mul,Nat.sub_zero]at I;obtain⟨ht,a8⟩:=I;subst a8;obtain⟨gg,q1,q2,q3⟩:=g6;have a7:∀(i:Nat) (x:α),l[i]? = some x->(l.map eA)[i]? = some (eA x):=λi x hx=>by rw[getElem?_map,hx];rfl
 have Y:∀(i:Nat) (hi:i<l.length),Aqq σ eA sz l l[i] ((range sz).map (gg i)):=by intro i hi;have hx:l[i]? = some l[i]:=getElem?_eq_getElem hi;refine⟨getElem_mem hi,q1 i _ (a7 i _ hx),ψ,λj a v ha hv=>?_⟩;rw[getElem?_map,Option.map_eq_some_iff]at hv;obtain⟨k,hk,rfl⟩:=hv;have b7:k=j:=(by have:=(List.getElem?_eq_some_iff.1 hk).2;simpa using this.symm);subst b7;exact q2 i _ k a (a7 i _ hx) ha
 have a9:0<l.length:=length_pos_iff.2 ag;let d:Array (O8 σ eA sz l):=Array.ofFn λi:Fin l.length=>⟨(l[i.1],(range sz).map (gg i.1)),Y i.1 i.2⟩
 haveI:Inhabited (O8 σ eA sz l):=⟨⟨(l[0],(range sz).map (gg 0)),Y 0 a9⟩⟩;have u:d.size=l.length:=by simp[d]
 have b9:∀i (hi:i<l.length),d[i]! = ⟨(l[i],(range sz).map (gg i)),Y i hi⟩:=λi hi=>by rw[getElem!_pos d i (by rw[u];exact hi)];simp[d]
 let a2:O8 σ eA sz l->List Value:=λp=>p.1.2
 have hk:∀x:O8 σ eA sz l,(a2 x).length=sz:=λx=>x.2.2.2.1;have h1:∀x:O8 σ eA sz l,∀v∈a2 x,v.oneCell'=true:=by intro x v hv;obtain⟨j,hj⟩:=getElem?_of_mem hv;have a3:=(List.getElem?_eq_some_iff.1 hj).1;rw[hk x]at a3;have ha:(eA x.1.1).cells[j]? = some ((eA x.1.1).cells[j]'(by rw[x.2.2.1];exact a3)):=getElem?_eq_getElem _;exact A24 (x.2.2.2.2 j _ v ha hj).2
 let a6:O8 σ eA sz l->O8 σ eA sz l->Int:=λx y=>cf x.1.1 y.1.1
 have hO:SWO (ltOf a6):=by
  constructor
  .intro x;exact decide_eq_false (a5.irr x.1.1)
  .intro x y z U S;exact decide_eq_true (a5.trs _ _ _ (of_decide_eq_true U) (of_decide_eq_true S))
  .intro x y z U S;exact decide_eq_false (a5.ntr _ _ _ (of_decide_eq_false U) (of_decide_eq_false S))
 have hH:HoldsK a2 sz w b 0 d:=by
  intro t V;rw[size_flatK,u]at V;have ab:t / sz<l.length:=Nat.div_lt_of_lt_mul (by rw[Nat.mul_comm];exact V);have aa:t % sz<sz:=Nat.mod_lt _ M;rw[get_flatK _ _ _ _ (by rw[u];exact V),b9 _ ab];have e:=q3 (t / sz) (t % sz) (by rw[length_map];exact ab) aa;rw[show t / sz*sz+t % sz=t by rw[Nat.mul_comm];exact Nat.div_add_mod t sz]at e;refine⟨?_,?_⟩
  .rw[Nat.zero_add,Kz g3,e];show some _=some (id _);congr 1;show gg _ _=((range sz).map (gg (t / sz)))[t % sz]!;rw[getElem!_pos _ _ (by simpa using aa)];simp
  .simp[World.frozen?,g3]
 have b0:b<w.heap.size:=(Array.getElem?_eq_some_iff.1 g3).1;have hC:CmpLays prog g #[] a2 sz a6 b 0 d.size w:=by
  intro m os dk hs x y;generalize ay:sortWorldK a2 sz w b 0 m dk os=J;have ak:∀b' o,σ b'=some o->J.heap[b']? = some o:=(by intro b' o ho;have af:b≠b':=(by rintro rfl;rw[g1]at ho;cases ho);have e:=s.sto b' o ho;have a3:=(Array.getElem?_eq_some_iff.1 e).1;rw[<-ay];show ((w.heap.modify b _)++os)[b']? = _;rw[Array.getElem?_append_left (by simpa using a3),Array.getElem?_modify,if_neg af];exact e);have am:=ar x.1.1 x.2.1 y.1.1 y.2.1;have hp:=aq _ _ _ am;have s1:St (λb=>J.heap[b]?) ι0 H0 (λ_=>none) J J:=⟨λ_ _ e=>e,(λ_ _ e=>by cases e),λ_=>rfl,(λ_ _ _ hl=>by cases hl),rfl,rfl,rfl,s.glo.mono ak,Nat.le_refl _⟩;have au:∀z:O8 σ eA sz l,Conc (λb=>J.heap[b]?) ι0 H0 (eA z.1.1) (.agg (a2 z).toArray):=by
   intro z;obtain⟨cs,ao⟩:=av z.1.1;have A:(eA z.1.1).cells=cs:=(by rw[ao];rfl);rw[ao];refine .cc (.agg _ _ ?_ λi c v hc hv=>?_)
   .rw[<-A,z.2.2.1];simp[hk z]
   .rw[<-A]at hc;exact (z.2.2.2.2 i c v hc (by simpa using hv)).1.mono ak
  refine (hp.2 (λb=>J.heap[b]?) (λ_=>none) J J _ s1 ⟨rfl,?_⟩).mono ?_
  .intro i a v ha hv
   match i,ha,hv with| 0,ha,hv=>cases ha;cases hv;exact au x| 1,ha,hv=>cases ha;cases hv;exact au y| n+2,ha,hv=>simp at ha
  .rintro e w' ⟨v,σ',rfl,aj,b3,hc⟩;refine⟨?_,?_⟩
   .cases hc with| cc h=>cases h;rfl
   .exact A26 (σ:=σ') (λb o ho=>aj b o ho) b3
 have call:=AnyQ.slices_SortFunc L sz aE zE a2 hk h1 a6 hO g #[] b 0 R d w eg hC hH b0 (by rw[u];omega);rw[hf,u]at call;refine call.mono ?_;rintro e w' ⟨rfl,q,n,os,b6,b4,rfl⟩;obtain⟨p1,p2,p3⟩:=b6;have G:q.size=l.length:=by rw[p1,u]
 have B:∀(a:Array (O8 σ eA sz l)),a.size=l.length->(a.extract 0 l.length).toList=a.toList:=λa ha=>by rw[<-ha];simp
 rw[B q G,B d u]at p3;have ah:d.toList.map (λp=>p.1.1)=l:=by
  apply ext_getElem
  .simp[u]
  .intro i be bb;simp[d]
 have X:(q.toList.map λp=>p.1.1).Perm l:=by have:=p3.map λp:O8 σ eA sz l=>p.1.1;rwa [ah]at this
 have hS:(q.toList.map λp=>p.1.1).Pairwise λx y=>¬cf y x<0:=by rw[pairwise_iff_getElem];intro i j hi hj b8;simp only[length_map,Array.length_toList]at hi hj;have:=b4 i j (Nat.zero_le _) b8 ω;rw[getElem!_pos q i hi,getElem!_pos q j hj]at this;have:=of_decide_eq_false this;simpa only[getElem_map,Array.getElem_toList] using this
 obtain⟨r,N⟩:∃r,q.toList.map (λp=>p.1.1)=r:=⟨_,rfl⟩;rw[N]at X hS;have ad:r.length=l.length:=X.length_eq;have ba:(flatK a2 sz q).size=l.length*sz:=by rw[size_flatK,G]
 have ax:(Sort.putCells id 0 (flatK a2 sz q) D).size=R*sz:=by unfold Sort.putCells;rw[Array.size_mapIdx];exact g4
 have ac:∀(i:Nat) (x:α),r[i]? = some x->i<q.size/\(q[i]!).1.1=x:=by intro i x hx;rw[<-N,getElem?_map,Option.map_eq_some_iff]at hx;obtain⟨p,hp,rfl⟩:=hx;have a3:=(List.getElem?_eq_some_iff.1 hp).1;simp only[Array.length_toList]at a3;refine⟨a3,?_⟩;rw[getElem!_pos q i a3];have:=(List.getElem?_eq_some_iff.1 hp).2;simp only[Array.getElem_toList]at this;rw[this]
 obtain⟨s',le⟩:=s.setRows 0 E sz _ (r.map eA) hh b R hb (by simp[ad]) (Sort.putCells id 0 (flatK a2 sz q) D) ax (by
  refine⟨λi j=>(a2 q[i]!)[j]!,?_,?_,?_⟩
  .intro i x hx;rw[getElem?_map]at hx;obtain⟨z,hz,rfl⟩:=Option.map_eq_some_iff.1 hx;obtain⟨e1,e2⟩:=ac i z hz;rw[<-e2];exact (q[i]!).2.2.1
  .intro i x j c hx Z;rw[getElem?_map]at hx;obtain⟨z,hz,rfl⟩:=Option.map_eq_some_iff.1 hx;obtain⟨e1,e2⟩:=ac i z hz;rw[<-e2]at Z;have a3:=(List.getElem?_eq_some_iff.1 Z).1;rw[(q[i]!).2.2.1,<-(q[i]!).2.2.2.1]at a3;have hg:(q[i]!).1.2[j]? = some ((a2 q[i]!)[j]!):=(by rw[getElem?_eq_getElem a3,getElem!_pos (a2 q[i]!) j a3]);exact (q[i]!).2.2.2.2 j c _ Z hg
  .intro i j hi hj;rw[length_map,ad]at hi;have a3:i*sz+j<l.length*sz:=(by have:=Nat.mul_le_mul_right sz (show i+1<=l.length from hi);rw[Nat.add_mul,Nat.one_mul]at this;omega);have hD:i*sz+j<D.size:=(by rw[g4];exact Nat.lt_of_lt_of_le a3 (Nat.mul_le_mul_right sz g5));unfold Sort.putCells;rw[Array.getElem?_mapIdx,Array.getElem?_eq_getElem hD];simp only[Option.map_some,Nat.zero_le,true_and,Nat.zero_add,ba,a3,if_true,Nat.sub_zero];congr 1;show id ((flatK a2 sz q)[i*sz+j]!)=_;rw[get_flatK _ _ _ _ (by rw[G];exact a3)];have e1:(i*sz+j) / sz=i:=(by rw[Nat.mul_comm,Nat.mul_add_div M,Nat.div_eq_of_lt hj,Nat.add_zero]);have e2:(i*sz+j) % sz=j:=(by rw[Nat.mul_comm,Nat.mul_add_mod,Nat.mod_eq_of_lt hj]);rw[e1,e2];rfl);have eH:Az (hp [.rows E sz (l.map eA)]) 0 (.rows E sz (r.map eA))=hp [.rows E sz (r.map eA)]:=by
  funext i
  match i with| 0=>rfl| i+1=>rfl
 rw[eH]at le s';have eW:sortWorldK a2 sz w b 0 n q os=Sort.grow (Sort.ahead (w.setRow b (Sort.putCells id 0 (flatK a2 sz q) D)) n) os:=by unfold sortWorldK putRowK;rw[Aqp id (Sort.ahead w n) b (flatK a2 sz q) D E g3];rfl
 rw[eW];exact⟨_,_,_,σ,ι,⟨r,⟨cf,a5,ar,X,hS⟩,rfl,rfl⟩,rfl,le,s'.growG n os,.tup _ _ rfl (λi c v h1 _=>by cases h1)⟩
theorem Pv.only {o:List α} (h:Pv cmp l r) (h':Jn cmp l o):o=r:=by
 obtain⟨cf,d,g,b,k⟩:=h;obtain⟨z,lg,f,hp,q⟩:=h';have e:∀x∈l,∀y∈l,z x y=cf x y:=λx hx y hy=>Option.some.inj ((f x hx y hy).symm.trans (g x hx y hy));have s:o.Pairwise λx y=>cf x y<0\/cf y x<0:=((hp.trans b.symm).pairwise_iff λ{x y} h=>h.symm).2 (k.imp λh=>.inl h);have u:o.Pairwise λx y=>cf x y<0:=by
  rw[pairwise_iff_getElem]at s q ⊢;intro i j hi A c;rcases s i j hi A c with h|h
  .exact h
  .have:=q i j hi A c;rw[e _ (hp.subset (getElem_mem A)) _ (hp.subset (getElem_mem hi))]at this;exact (this h).elim
 exact Perm.eq_of_pairwise (le:=λx y=>cf x y<0) (λx y _ _ h1 h2=>(d.irr x (d.trs _ _ _ h1 h2)).elim) u k (hp.trans b.symm)
theorem Pv.toU (h:Pv cmp l r):Jn cmp l r:=by obtain⟨cf,d,c,b,f⟩:=h;exact⟨cf,d,c,b,f.imp λ{x y} h h2=>d.irr x (d.trs _ _ _ h h2)⟩
def A27:Ren:={f:=λx=>match x with|6=>123|15=>53|14=>194|28=>106|29=>107|20=>257|21=>258|22=>259|23=>260|24=>261|25=>262|26=>263|27=>264|46=>299|47=>175|48=>176|49=>300|50=>301|57=>334|n=>n,t:=λx=>match x with|22=>28|24=>88|25=>201|3=>3|39=>122|0=>0|53=>141|55=>140|4=>4|46=>169|45=>168|50=>174|5=>5|9=>9|66=>250|70=>108|76=>319|77=>320|n=>n,g:=λn=>n}
theorem A28:SlLaysF0.n6 prog A27:=by
 constructor
 case f6=>exact Exists.intro "slices.SortFunc[[]amortcost/api.Term,amortcost/api.Term]" ⟨κ,κ⟩
 case f14=>exact Exists.intro "slices.pdqsortCmpFunc[amortcost/api.Term]" ⟨κ,κ⟩
 case f20=>exact Exists.intro "slices.insertionSortCmpFunc[amortcost/api.Term]" ⟨κ,κ⟩
 case f21=>exact Exists.intro "slices.heapSortCmpFunc[amortcost/api.Term]" ⟨κ,κ⟩
 case f22=>exact Exists.intro "slices.breakPatternsCmpFunc[amortcost/api.Term]" ⟨κ,κ⟩
 case f23=>exact Exists.intro "slices.choosePivotCmpFunc[amortcost/api.Term]" ⟨κ,κ⟩
 case f24=>exact Exists.intro "slices.reverseRangeCmpFunc[amortcost/api.Term]" ⟨κ,κ⟩
 case f25=>exact Exists.intro "slices.partialInsertionSortCmpFunc[amortcost/api.Term]" ⟨κ,κ⟩
 case f26=>exact Exists.intro "slices.partitionEqualCmpFunc[amortcost/api.Term]" ⟨κ,κ⟩
 case f27=>exact Exists.intro "slices.partitionCmpFunc[amortcost/api.Term]" ⟨κ,κ⟩
 case f46=>exact Exists.intro "slices.siftDownCmpFunc[amortcost/api.Term]" ⟨κ,κ⟩
 case f49=>exact Exists.intro "slices.medianAdjacentCmpFunc[amortcost/api.Term]" ⟨κ,κ⟩
 case f50=>exact Exists.intro "slices.medianCmpFunc[amortcost/api.Term]" ⟨κ,κ⟩
 case f57=>exact Exists.intro "slices.order2CmpFunc[amortcost/api.Term]" ⟨κ,κ⟩
 all_goals first|kernel_rfl | (intro w;kernel_rfl)
theorem A29 (k:∀args w,(callFunc g args).run prog w = .ok (.enter g args) w) (c:∀x y n,cmp x y=some n->A8 prog g [eA x,eA y] (O .i64 n)) (f:∀x,∃cs,eA x = .agg cs) (h:∃o,Jn cmp b o) (j:b≠[]) : Nl prog 123 [.arr 0 b.length 0 b.length,.fn g []] [.rows 88 5 (b.map eA)] (λa i=>∃o,Jn cmp b o/\a = .tup []/\i = [.rows 88 5 (o.map eA)]) := Aky A28 rfl ⟨_,func123,κ,κ⟩ (by intro w;kernel_rfl) (by intro w;kernel_rfl) k c f h j
theorem A3a (j:∀args w,(callFunc g args).run prog w = .ok (.enter g args) w) (b:∀x y n,cmp x y=some n->A8 prog g [eA x,eA y] (O .i64 n)) (c:∀x,∃cs,eA x = .agg cs) {f:List α} (h:Oo cmp f=some r) (i:f≠[]) : Bk prog 123 [.arr 0 f.length 0 f.length,.fn g []] [.rows 88 5 (f.map eA)] (.tup []) [.rows 88 5 (r.map eA)] := ((A29 j b c ⟨r,(Wa h).toU⟩ i).one λ_ _ ⟨o,d,k,q⟩=>⟨k,by rw[q,(Wa h).only d]⟩)
def A3b:Ren:={f:=λx=>match x with|6=>198|15=>53|14=>266|28=>106|29=>107|20=>302|21=>303|22=>304|23=>305|24=>306|25=>307|26=>308|27=>309|46=>335|47=>175|48=>176|49=>336|50=>337|57=>351|n=>n,t:=λx=>match x with|22=>66|24=>99|25=>275|3=>3|39=>122|0=>0|53=>141|55=>140|4=>4|46=>169|45=>168|50=>174|5=>5|9=>9|66=>250|70=>108|76=>319|77=>320|n=>n,g:=λn=>n}
theorem A3c:SlLaysF0.n6 prog A3b:=by
 constructor
 case f6=>exact Exists.intro "slices.SortFunc[[]amortcost/api.LinTerm,amortcost/api.LinTerm]" ⟨κ,κ⟩
 case f14=>exact Exists.intro "slices.pdqsortCmpFunc[amortcost/api.LinTerm]" ⟨κ,κ⟩
 case f20=>exact Exists.intro "slices.insertionSortCmpFunc[amortcost/api.LinTerm]" ⟨κ,κ⟩
 case f21=>exact Exists.intro "slices.heapSortCmpFunc[amortcost/api.LinTerm]" ⟨κ,κ⟩
 case f22=>exact Exists.intro "slices.breakPatternsCmpFunc[amortcost/api.LinTerm]" ⟨κ,κ⟩
 case f23=>exact Exists.intro "slices.choosePivotCmpFunc[amortcost/api.LinTerm]" ⟨κ,κ⟩
 case f24=>exact Exists.intro "slices.reverseRangeCmpFunc[amortcost/api.LinTerm]" ⟨κ,κ⟩
 case f25=>exact Exists.intro "slices.partialInsertionSortCmpFunc[amortcost/api.LinTerm]" ⟨κ,κ⟩
 case f26=>exact Exists.intro "slices.partitionEqualCmpFunc[amortcost/api.LinTerm]" ⟨κ,κ⟩
 case f27=>exact Exists.intro "slices.partitionCmpFunc[amortcost/api.LinTerm]" ⟨κ,κ⟩
 case f46=>exact Exists.intro "slices.siftDownCmpFunc[amortcost/api.LinTerm]" ⟨κ,κ⟩
 case f49=>exact Exists.intro "slices.medianAdjacentCmpFunc[amortcost/api.LinTerm]" ⟨κ,κ⟩
 case f50=>exact Exists.intro "slices.medianCmpFunc[amortcost/api.LinTerm]" ⟨κ,κ⟩
 case f57=>exact Exists.intro "slices.order2CmpFunc[amortcost/api.LinTerm]" ⟨κ,κ⟩
 all_goals first|kernel_rfl | (intro w;kernel_rfl)
theorem Aqr (k:∀args w,(callFunc g args).run prog w = .ok (.enter g args) w) (c:∀x y n,cmp x y=some n->A8 prog g [eA x,eA y] (O .i64 n)) (f:∀x,∃cs,eA x = .agg cs) (h:∃o,Jn cmp b o) (j:b≠[]) : Nl prog 198 [.arr 0 b.length 0 b.length,.fn g []] [.rows 99 2 (b.map eA)] (λa i=>∃o,Jn cmp b o/\a = .tup []/\i = [.rows 99 2 (o.map eA)]) := Aky A3c rfl ⟨_,func198,κ,κ⟩ (by intro w;kernel_rfl) (by intro w;kernel_rfl) k c f h j
theorem A3d (j:∀args w,(callFunc g args).run prog w = .ok (.enter g args) w) (b:∀x y n,cmp x y=some n->A8 prog g [eA x,eA y] (O .i64 n)) (c:∀x,∃cs,eA x = .agg cs) {f:List α} (h:Oo cmp f=some r) (i:f≠[]) : Bk prog 198 [.arr 0 f.length 0 f.length,.fn g []] [.rows 99 2 (f.map eA)] (.tup []) [.rows 99 2 (r.map eA)] := ((Aqr j b c ⟨r,(Wa h).toU⟩ i).one λ_ _ ⟨o,d,k,q⟩=>⟨k,by rw[q,(Wa h).only d]⟩)
def A3e:Ren:={f:=λx=>match x with|6=>293|15=>53|14=>327|28=>106|29=>107|20=>339|21=>340|22=>341|23=>342|24=>343|25=>344|26=>345|27=>346|46=>352|47=>175|48=>176|49=>353|50=>354|57=>357|n=>n,t:=λx=>match x with|22=>185|24=>189|25=>382|3=>3|39=>122|0=>0|53=>141|55=>140|4=>4|46=>169|45=>168|50=>174|5=>5|9=>9|66=>250|70=>108|76=>319|77=>320|n=>n,g:=λn=>n}
theorem A3f:SlLaysF0.n6 prog A3e:=by
 constructor
 case f6=>exact Exists.intro "slices.SortFunc[[]amortcost/api.Weighted,amortcost/api.Weighted]" ⟨κ,κ⟩
 case f14=>exact Exists.intro "slices.pdqsortCmpFunc[amortcost/api.Weighted]" ⟨κ,κ⟩
 case f20=>exact Exists.intro "slices.insertionSortCmpFunc[amortcost/api.Weighted]" ⟨κ,κ⟩
 case f21=>exact Exists.intro "slices.heapSortCmpFunc[amortcost/api.Weighted]" ⟨κ,κ⟩
 case f22=>exact Exists.intro "slices.breakPatternsCmpFunc[amortcost/api.Weighted]" ⟨κ,κ⟩
 case f23=>exact Exists.intro "slices.choosePivotCmpFunc[amortcost/api.Weighted]" ⟨κ,κ⟩
 case f24=>exact Exists.intro "slices.reverseRangeCmpFunc[amortcost/api.Weighted]" ⟨κ,κ⟩
 case f25=>exact Exists.intro "slices.partialInsertionSortCmpFunc[amortcost/api.Weighted]" ⟨κ,κ⟩
 case f26=>exact Exists.intro "slices.partitionEqualCmpFunc[amortcost/api.Weighted]" ⟨κ,κ⟩
 case f27=>exact Exists.intro "slices.partitionCmpFunc[amortcost/api.Weighted]" ⟨κ,κ⟩
 case f46=>exact Exists.intro "slices.siftDownCmpFunc[amortcost/api.Weighted]" ⟨κ,κ⟩
 case f49=>exact Exists.intro "slices.medianAdjacentCmpFunc[amortcost/api.Weighted]" ⟨κ,κ⟩
 case f50=>exact Exists.intro "slices.medianCmpFunc[amortcost/api.Weighted]" ⟨κ,κ⟩
 case f57=>exact Exists.intro "slices.order2CmpFunc[amortcost/api.Weighted]" ⟨κ,κ⟩
 all_goals first|kernel_rfl | (intro w;kernel_rfl)
theorem A3g (k:∀args w,(callFunc g args).run prog w = .ok (.enter g args) w) (c:∀x y n,cmp x y=some n->A8 prog g [eA x,eA y] (O .i64 n)) (f:∀x,∃cs,eA x = .agg cs) (h:∃o,Jn cmp b o) (j:b≠[]) : Nl prog 293 [.arr 0 b.length 0 b.length,.fn g []] [.rows 189 5 (b.map eA)] (λa i=>∃o,Jn cmp b o/\a = .tup []/\i = [.rows 189 5 (o.map eA)]) := Aky A3f rfl ⟨_,func293,κ,κ⟩ (by intro w;kernel_rfl) (by intro w;kernel_rfl) k c f h j
theorem A3h (j:∀args w,(callFunc g args).run prog w = .ok (.enter g args) w) (b:∀x y n,cmp x y=some n->A8 prog g [eA x,eA y] (O .i64 n)) (c:∀x,∃cs,eA x = .agg cs) {f:List α} (h:Oo cmp f=some r) (i:f≠[]) : Bk prog 293 [.arr 0 f.length 0 f.length,.fn g []] [.rows 189 5 (f.map eA)] (.tup []) [.rows 189 5 (r.map eA)] := ((A3g j b c ⟨r,(Wa h).toU⟩ i).one λ_ _ ⟨o,d,k,q⟩=>⟨k,by rw[q,(Wa h).only d]⟩)
end Go.Ab
namespace Go.Ab
open Go Go.Proofs Go.Shelf Go.Proofs.Tryz
set_option maxRecDepth 100000
set_option linter.unusedVariables false
variable {n:Int} {α:Type} {r:List α} {eA:α->AV}
theorem Akv {σ:A7} {ι:Cb} {H:Hp} {u v:Value} (h:Conc σ ι H (.val u) v):v=u:=by cases h with| cc h=>cases h;rfl
theorem Aa7 {ρ:Ren} {E:TypeId} {sz f:Nat} (L:Lays8.n4 prog ρ) (hf:ρ.f 4=f) (g:Yn prog f) (l:TypeInfo) (z:Value) (G:prog.info? (ρ.t 25)=some l) (D:l.zero=some z) (U:ρ.t 25=E) (R:l.size=sz) (B:z.cells.size=sz) (q:0<sz) (I:l.bytes<=1000) (h:Lv n=some r):Bk prog f [.val (.slice none 0 0),O .i64 n] [] (.arr 0 r.length 0 r.length) [.rows E sz (r.map eA)]:=by
 have S:r = []/\0<=n/\n<=1000000:=by
  unfold Lv at h;by_cases h1:0<=n
  .by_cases h2:n<=1000000
   .rw[decide_eq_true h1,decide_eq_true h2]at h;have h:some ([]:List α)=some r:=h;cases h;exact⟨rfl,h1,h2⟩
   .rw[decide_eq_false h2,Bool.and_false]at h;cases h
  .rw[decide_eq_false h1,Bool.false_and]at h;cases h
 obtain⟨rfl,Z,Y⟩:=S;obtain⟨m,rfl⟩:∃m:Nat,n=m:=⟨n.toNat,ω⟩;refine⟨g,λσ F W w ι vs s y=>?_⟩;obtain⟨v,u,rfl,hv,hu⟩:=Aku y;obtain rfl:=Akv hv;obtain rfl:=Akv hu;have M:hp [] 0 = .none:=rfl;have N:Az (hp []) 0 (.rows E sz [])=hp [.rows E sz []]:=by
  funext i
  match i with| 0=>rfl| i+1=>rfl
 by_cases h0:m=0
 .subst h0;have call:=Any8.slices_Grow_room L none 0 0 0 w (Nat.le_refl _) δ δ δ;rw[hf]at call;refine call.mono ?_;rintro e w' ⟨rfl,rfl⟩;obtain⟨s',le⟩:=s.newNil 0 M E sz q;rw[N]at s' le;refine⟨_,σ,_,rfl,le,s',.arr 0 0 0 0 _ (by intro e;cases e) (λX A xs e=>?_) rfl⟩;cases e;refine⟨Nat.le_refl _,λ_=>?_⟩;unfold Hq;rw[Ch];exact⟨rfl,rfl,rfl⟩
 .have hb:(0+m)*l.bytes<=140737488355328:=(by have:=Nat.mul_le_mul (show 0+m<=1000000 by omega) I;omega);have call:=Any8.slices_Grow_grow L l z G D ω none 0 0 m [] w (Nat.le_refl _) ω hb ω ψ (λ_=>rfl) (λa h=>by cases h);rw[hf,U]at call;refine call.mono ?_;rintro e w' ⟨rfl,rfl⟩;have a1:=Ada w (0+m) 0 E;generalize grownCap w (0+m) 0 E=d at a1;have b:∀k,(Builtin.zeroCells z.cells k).size=k*sz:=(by intro k;simp[Builtin.zeroCells,B]);generalize V:(([]:List Value).toArray++Builtin.zeroCells z.cells (0+m-0)++Builtin.zeroCells z.cells (d-(0+m)))=C;have J:C.size=d*sz:=(by rw[<-V,Array.size_append,Array.size_append,b,b];simp only[size_toArray,length_nil,Nat.zero_add,Nat.sub_zero,<-Nat.add_mul];congr 1;omega);obtain⟨s',le⟩:=(s.drew (w.drawn+1)).newRows 0 E sz [] d C (.inl M) q ψ ψ J ⟨λ_ _=>.bool false,(by intro i x h;simp at h),(by intro i x j c h;simp at h),(by intro i j h;simp at h)⟩;rw[N]at s' le;refine⟨_,σ,_,rfl,le,s',.arr 0 0 0 0 _ (by intro e;cases e) (λX A xs e=>?_) rfl⟩;cases e;refine⟨Nat.le_refl _,λ_=>?_⟩;unfold Hq;rw[Ch];exact⟨Nat.zero_le _,ψ⟩
def A3i:Ren:={f:=λx=>match x with|4=>54|n=>n,t:=λx=>match x with|22=>29|25=>3|3=>3|4=>4|9=>9|20=>20|0=>0|n=>n,g:=λn=>n}
theorem A3j:Lays8.n4 prog A3i:=by
 constructor
 case f4=>exact Exists.intro "slices.Grow[[]int,int]" ⟨κ,κ⟩
 all_goals first|kernel_rfl | (intro w;kernel_rfl)
theorem A3k (h:Lv n=some r):Bk prog 54 [.val (.slice none 0 0),O .i64 n] [] (.arr 0 r.length 0 r.length) [.rows 3 1 (r.map eA)] := Aa7 A3j rfl ⟨_,func54,κ,κ⟩ t3 (t3.zero.getD .nilFunc) κ κ rfl κ κ δ (of_decide_eq_true κ) h
def A3l:Ren:={f:=λx=>match x with|4=>180|n=>n,t:=λx=>match x with|22=>83|25=>74|3=>3|4=>4|9=>9|20=>20|0=>0|n=>n,g:=λn=>n}
theorem A3m:Lays8.n4 prog A3l:=by
 constructor
 case f4=>exact Exists.intro "slices.Grow[[]amortcost/api.Factor,amortcost/api.Factor]" ⟨κ,κ⟩
 all_goals first|kernel_rfl | (intro w;kernel_rfl)
theorem A3n (h:Lv n=some r):Bk prog 180 [.val (.slice none 0 0),O .i64 n] [] (.arr 0 r.length 0 r.length) [.rows 74 3 (r.map eA)] := Aa7 A3m rfl ⟨_,func180,κ,κ⟩ t74 (t74.zero.getD .nilFunc) κ κ rfl κ κ δ (of_decide_eq_true κ) h
def A3o:Ren:={f:=λx=>match x with|4=>181|n=>n,t:=λx=>match x with|22=>84|25=>97|3=>3|4=>4|9=>9|20=>20|0=>0|n=>n,g:=λn=>n}
theorem A3p:Lays8.n4 prog A3o:=by
 constructor
 case f4=>exact Exists.intro "slices.Grow[[]amortcost/api.Atom,amortcost/api.Atom]" ⟨κ,κ⟩
 all_goals first|kernel_rfl | (intro w;kernel_rfl)
theorem A3q (h:Lv n=some r):Bk prog 181 [.val (.slice none 0 0),O .i64 n] [] (.arr 0 r.length 0 r.length) [.rows 97 3 (r.map eA)] := Aa7 A3p rfl ⟨_,func181,κ,κ⟩ t97 (t97.zero.getD .nilFunc) κ κ rfl κ κ δ (of_decide_eq_true κ) h
def A3r:Ren:={f:=λx=>match x with|4=>328|n=>n,t:=λx=>match x with|22=>185|25=>189|3=>3|4=>4|9=>9|20=>20|0=>0|n=>n,g:=λn=>n}
theorem A3s:Lays8.n4 prog A3r:=by
 constructor
 case f4=>exact Exists.intro "slices.Grow[[]amortcost/api.Weighted,amortcost/api.Weighted]" ⟨κ,κ⟩
 all_goals first|kernel_rfl | (intro w;kernel_rfl)
theorem A3t (h:Lv n=some r):Bk prog 328 [.val (.slice none 0 0),O .i64 n] [] (.arr 0 r.length 0 r.length) [.rows 189 5 (r.map eA)] := Aa7 A3s rfl ⟨_,func328,κ,κ⟩ t189 (t189.zero.getD .nilFunc) κ κ rfl κ κ δ (of_decide_eq_true κ) h
def A3u:Ren:={f:=λx=>match x with|4=>338|n=>n,t:=λx=>match x with|22=>70|25=>72|3=>3|4=>4|9=>9|20=>20|0=>0|n=>n,g:=λn=>n}
theorem A3v:Lays8.n4 prog A3u:=by
 constructor
 case f4=>exact Exists.intro "slices.Grow[[]amortcost/api.Index,amortcost/api.Index]" ⟨κ,κ⟩
 all_goals first|kernel_rfl | (intro w;kernel_rfl)
theorem A3w (h:Lv n=some r):Bk prog 338 [.val (.slice none 0 0),O .i64 n] [] (.arr 0 r.length 0 r.length) [.rows 72 2 (r.map eA)] := Aa7 A3v rfl ⟨_,func338,κ,κ⟩ t72 (t72.zero.getD .nilFunc) κ κ rfl κ κ δ (of_decide_eq_true κ) h
end Go.Ab
