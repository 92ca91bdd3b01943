/- Contracts of the library. -/
import Derived.Test.YtbpbaimlddncnaaGreatDoorPcTy
import Derived.Test.YtbpbaimlddncnaaGreatDoorPcHandB
import Derived.Shelf.Strconv.Itoa4
import Derived.KernelRfl
import Derived.Shelf.Sort.Plain
import Derived.Shelf.SlSortCmp.WholeK
import Derived.Shelf.Spec.SlicesGrow
open List
namespace Go.Ab
open Go Go.Proofs Go.Shelf Go.Proofs.Tryz
set_option maxRecDepth 100000
variable {p x:AV} {vs:Array Value} {F σ:Ax} {ι:Bx} {r:ByteArray} {H:Hp} {a0:Int} {l:List Int} {W w:World}
def Ame:Ren:={f:=λx=>match x with|171=>107|243=>169|246=>235|283=>268|284=>269|285=>270|286=>271|129=>185|317=>297|318=>298|319=>299|320=>300|337=>304|338=>305|173=>171|n=>n,t:=λx=>match x with|3=>3|9=>9|2=>2|4=>4|171=>341|0=>0|53=>73|37=>166|5=>5|173=>343|212=>368|51=>74|20=>20|213=>369|46=>191|232=>373|233=>374|n=>n,g:=λx=>match x with|17=>0|18=>1|19=>2|n=>n}
theorem Amf:LaysM.n171 prog Ame:=by constructor;constructor;all_goals first|kernel_rfl | (intro w;kernel_rfl)
theorem St.grown (s:St σ ι0 H0 F W w) (k:Nat) (os:Array Obj):St σ ι0 H0 F W (Sort.grow (w.drewN k) os):=by
 have hk:∀(b:Nat) (o:Obj),w.heap[b]? = some o->(Sort.grow (w.drewN k) os).heap[b]? = some o:=by intro b o h;have c:=(Array.getElem?_eq_some_iff.1 h).1;show (w.heap++os)[b]? = _;rw[Array.getElem?_append_left c];exact h
 exact⟨λb o h=>hk b o (s.sto b o h),λb o h=>⟨hk b o (s.fra b o h).1,(s.fra b o h).2⟩,λ_=>rfl,(λ_ _ _ f=>by cases f),s.os,s.tape,s.output,s.glo,Nat.le_trans s.drw (Nat.le_add_right _ _)⟩
theorem Amg (s:St σ ι H F W w):Lib.TabIs prog w "internal/strconv.uint64pow10" .u64 Lib.pow10Tab:=by obtain⟨E,d,e⟩:=s.glo;have h:=s.sto _ _ e;have g:prog.globalNamed "internal/strconv.uint64pow10" = some 0:=Amf.m17;unfold Lib.TabIs World.var?;rw[g];simp only[Option.bind_some,h]
theorem U4 (h:Ks σ ι H [x] vs):∃v,vs = #[v]/\Conc σ ι H x v:=by
 obtain⟨d,j⟩:=h;have d:vs.size=1:=d;refine⟨vs[0],?_,j 0 x _ rfl (by simp[d])⟩;apply Array.ext
 .simp[d]
 .intro i hi b;have:i=0:=ω;subst this;rfl
theorem Axb (h:Oj a0=some r):A6 prog 107 [O .i64 a0] (Fy r):=by
 unfold Oj at h;split at h
 .rename_i d;cases h;refine⟨⟨_,func107,κ,κ⟩,λσ F W w vs s b=>?_⟩;obtain⟨v,rfl,c⟩:=U4 b;have c:=c.val_inv;subst c;have:=Any.strconv_Itoa Amf a0 d.1 d.2 w (Amg s);refine this.mono ?_;rintro e j ⟨rfl,k,os,rfl⟩;exact⟨_,σ,rfl,Ax.le_refl σ,s.grown k os,.of_val _⟩
 .cases h
theorem Axc:LaysM.n173 prog Ame:=by constructor;constructor;all_goals first|kernel_rfl | (intro w;kernel_rfl)
theorem Agz {y:AV} (h:Ks σ ι H [x,y] vs):∃v u,vs = #[v,u]/\Conc σ ι H x v/\Conc σ ι H y u:=by
 obtain⟨d,j⟩:=h;have d:vs.size=2:=d;refine⟨vs[0],vs[1],?_,j 0 x _ rfl (by simp[d]),j 1 y _ rfl (by simp[d])⟩;apply Array.ext
 .simp[d]
 .intro i hi b;rcases (ω:i=0\/i=1) with h|h
  .subst h;rfl
  .subst h;rfl
theorem Axd {a1:Int} (h:Aav a0 a1=some r):A6 prog 171 [O .i64 a0,O .i64 a1] (Fy r):=by
 unfold Aav at h;cases d:a1==10 with
 | false=>rw[d]at h;cases h
 | true=>
  rw[d]at h;have d:=eq_of_beq d;subst d;have h:Oj a0=some r:=h;unfold Oj at h;split at h
  .rename_i q;cases h;refine⟨⟨_,func171,κ,κ⟩,λσ F W w vs s b=>?_⟩;obtain⟨v,u,rfl,c,j⟩:=Agz b;have c:=c.val_inv;have j:=j.val_inv;subst c;subst j;have:=Any.strconv_FormatInt_10 Axc a0 q.1 q.2 w (Amg s);refine this.mono ?_;rintro e y ⟨rfl,k,os,rfl⟩;exact⟨_,σ,rfl,Ax.le_refl σ,s.grown k os,.of_val _⟩
  .cases h
theorem Yi (o:Bf) (os:List Bf):hp (o::os) 0=o:=rfl
theorem Axe (x:AV) (rest:List Bf):Bm prog 149 [.loc 0 0] (.cells 168 [.loc 0 0,x]::rest) (.tup []) (.cells 168 [.loc 0 0,x]::rest):=by
 refine⟨⟨_,func149,κ,κ⟩,λσ F W w ι vs s f=>?_⟩;obtain⟨v,rfl,k⟩:=U4 f;obtain⟨b,d,k⟩:=k.loc_inv;subst k;have l:=s.obj 0;unfold Cv at l;rw[Yi]at l;obtain⟨A,C,y,_,_,B,u,z⟩:=l;rw[d]at y;cases y;have u:C.size=2:=u;have g:C[0]? = some C[0]:=by simp[u]
 have q:=z 0 (.loc 0 0) C[0] rfl g;obtain⟨I,h,j⟩:=q.loc_inv;rw[d]at h;cases h;have cell:w.cell? ⟨b,0,none⟩=some (.pointer (some ⟨b,0,none⟩)):=by rw[J9 B,g,j]
 refine (Tryz.check_used b w cell).mono ?_;rintro e L ⟨rfl,rfl⟩;exact⟨_,σ,ι,rfl,Le.refl _ _ _,s,.tup _ _ rfl (λi c v D _=>by cases D)⟩
theorem Axf (x:AV) (rest:List Bf):Bm prog 149 [.loc 0 0] (.cells 168 [.val (.pointer none),x]::rest) (.tup []) (.cells 168 [.loc 0 0,x]::rest):=by
 refine⟨⟨_,func149,κ,κ⟩,λσ F W w ι vs s j=>?_⟩;obtain⟨v,rfl,q⟩:=U4 j;obtain⟨b,M,q⟩:=q.loc_inv;subst q;have u:=s.obj 0;unfold Cv at u;rw[Yi]at u;obtain⟨D,C,A,_,_,I,g,z⟩:=u;rw[M]at A;cases A;have g:C.size=2:=g;have k:C[0]? = some C[0]:=by simp[g]
 have l:=(z 0 (.val (.pointer none)) C[0] rfl k).val_inv;have cell:w.cell? ⟨b,0,none⟩=some (.pointer none):=by rw[J9 I,k,l]
 refine (Tryz.check_fresh b w cell (by simp[World.shape?,I,g]) (by simp[World.frozen?,I])).mono ?_;rintro e R ⟨rfl,rfl⟩;obtain⟨N,le⟩:=s.setBox 0 168 [.val (.pointer none),x] [.loc 0 0,x] rfl b M #[.pointer (some ⟨b,0,none⟩),C[1]] rfl (by
  intro i c v d L
  match i with| 0=>simp at d L;subst d;subst L;exact .loc 0 0 b M| 1=>simp at d L;subst d;subst L;exact z 1 x _ rfl (by simp[g])| i+2=>simp at d)
 have B:A4 (hp (.cells 168 [.val (.pointer none),x]::rest)) 0 (.cells 168 [.loc 0 0,x])=hp (.cells 168 [.loc 0 0,x]::rest):=by funext i;cases i with| zero=>rfl| succ i=>rfl
 have eW:w.setCell ⟨b,0,none⟩ (.pointer (some ⟨b,0,none⟩))=w.setRow b #[.pointer (some ⟨b,0,none⟩),C[1]]:=by
  have h:C.setIfInBounds 0 (.pointer (some ⟨b,0,none⟩)) = #[.pointer (some ⟨b,0,none⟩),C[1]]:=by
   apply Array.ext
   .simp[g]
   .intro i hi y
    match i with| 0=>simp| 1=>rw[Array.getElem_setIfInBounds_ne _ δ];rfl| i+2=>simp at y;omega
  have f:(w.setCell ⟨b,0,none⟩ (.pointer (some ⟨b,0,none⟩))).heap=(w.setRow b #[.pointer (some ⟨b,0,none⟩),C[1]]).heap:=by
   apply Array.ext_getElem?;intro i;simp only[World.setCell,World.setRow,Array.getElem?_modify];split
   .rename_i e;subst e;rw[I];simp[h]
   .rfl
  unfold World.setCell World.setRow at f ⊢;simp only at f;rw[f]
 rw[B]at N le;rw[eW];exact⟨_,σ,ι,rfl,le,N,.tup _ _ rfl (λi c v d _=>by cases d)⟩
theorem Axg (h:∀x∈l,0<=x/\x<256) {j:Nat} {x:UInt8} (d:(Ey l)[j]? = some x):l[j]? = some (x.toNat:Int):=by simp only[Ey,getElem?_map,Option.map_eq_some_iff]at d;obtain⟨y,k,rfl⟩:=d;have b:=h y (mem_of_getElem? k);rw[k];congr 1;have:y.toNat<256:=ω;simp only[UInt8.toNat_ofNat'];omega
theorem St.kill (s:St σ ι H F W w) (h:Nat):St σ ι (A4 H h .dead) F W w/\Le σ ι H σ ι (A4 H h .dead):=by
 have le:Le σ ι H σ ι (A4 H h .dead):=by have:=Le.upd (ι:=ι) (H:=H) (Ax.le_refl σ) h (ι h) .dead ⟨λ_ e=>e,(λ_ e=>by cases e),(λ_ k j i e=>by cases e)⟩;rwa [Iq]at this
 obtain⟨f1,f2⟩:=s.fresh;refine⟨s.touch h w.heap.size (λ_ _=>rfl) (λx e=>Cy _ _ e) le (λ_ _=>rfl) (λ_ _=>rfl) (λo g=>by rw[f1]at g;cases g) ?_ f2 ?_ ?_ rfl rfl rfl,le⟩
 .intro x _ c f;have:=(s.block c f).1;omega
 .intro b c;rw[Cd]at c;cases c
 .unfold Cv;rw[Cd];trivial
theorem St.fbox (s0:St σ ι H F W w) {T:TypeId} {s:ByteArray} {b:Nat} {C:Array Value} (f:H 0 = .cells T [p,x]) (hb:ι 0 = .box b) (h3:w.heap[b]? = some (.cells C T (0,0))) (hc:∀v,C[1]? = some v->CC σ (.fb s) v):St σ ι (A4 H 0 (.cells T [p,.fb s])) F W w/\Le σ ι H σ ι (A4 H 0 (.cells T [p,.fb s])):=by
 have g:=s0.obj 0;unfold Cv at g;rw[f]at g;obtain⟨u,z,k,d,A,B,D,I⟩:=g;rw[hb]at k;cases k;rw[h3]at B;cases B;have le:Le σ ι H σ ι (A4 H 0 (.cells T [p,.fb s])):=by have:=Le.upd (ι:=ι) (H:=H) (Ax.le_refl σ) 0 (ι 0) (.cells T [p,.fb s]) (by rw[f];exact⟨λ_ e=>e,(λ_ e=>by cases e),(λ_ _ _ _ e=>by cases e)⟩);rwa [Iq]at this
 refine⟨s0.touch 0 b (λ_ _=>rfl) (λx e=>Cy _ _ e) le (λx e=>rfl) (λ_ _=>rfl) (λo e=>by rw[d]at e;cases e) ?_ A ?_ ?_ rfl rfl rfl,le⟩
 .intro x e l h;exact e (s0.inj x 0 b l (by rw[f];rfl) h (by rw[hb];rfl))
 .intro q _ j;exact .inr ⟨by rw[f];rfl,j⟩
 .unfold Cv;rw[Cd];refine⟨b,C,hb,d,A,h3,by simpa using D,λi c v x y=>?_⟩
  match i with| 0=>exact (I 0 c v x y).mono le| 1=>cases x;exact .cc (hc v y)| i+2=>cases x
theorem Axh:Bm prog 96 [.loc 0 0] [.cells 168 [p,.arr 1 0 0 0],.rows 5 1 []] (Fy .empty) [.cells 168 [p,.fb .empty],.dead]:=by
 refine⟨⟨_,func96,κ,κ⟩,λσ F W w ι vs s z=>?_⟩;obtain⟨v,rfl,j⟩:=U4 z;obtain⟨b,hb,j⟩:=j.loc_inv;subst j;have M:=s.obj 0;unfold Cv at M;rw[Yi]at M;obtain⟨b',C,Y,_,_,h3,B,h5⟩:=M;rw[hb]at Y;cases Y;have B:C.size=2:=B;have hC:C = #[C[0],C[1]]:=by
  apply Array.ext
  .simp[B]
  .intro i hi N
   match i with| 0=>rfl| 1=>rfl| i+2=>simp at N;omega
 have R:=h5 1 (.arr 1 0 0 0) C[1] rfl (by simp[B]);have y:hp [Bf.cells 168 [p,.arr 1 0 0 0],.rows 5 1 []] 1 = .rows 5 1 []:=rfl;have c:=R.arr_inv y ψ;have a1:=s.obj 1;unfold Cv at a1;rw[y]at a1;obtain⟨_,V,a1⟩:=a1;have eH:A4 (A4 (hp [Bf.cells 168 [p,.arr 1 0 0 0],.rows 5 1 []]) 1 .dead) 0 (.cells 168 [p,.fb .empty])=hp [Bf.cells 168 [p,.fb .empty],.dead]:=by
  funext i
  match i with| 0=>rfl| 1=>rfl| i+2=>rfl
 have go:∀(a q:Option Addr) (d:Nat) (A:Ax) (k:World),C[1] = .slice a 0 d->k.heap[b]? = w.heap[b]?->(Builtin.unsafeSliceData_ #[166] 228 #[.slice a 0 d]).run prog w.drew = .ok (.pointer q) k ->
   Le σ ι (hp [Bf.cells 168 [p,.arr 1 0 0 0],.rows 5 1 []]) A ι (hp [Bf.cells 168 [p,.arr 1 0 0 0],.rows 5 1 []])->St A ι (hp [Bf.cells 168 [p,.arr 1 0 0 0],.rows 5 1 []]) F W k -> Calls prog 96 #[.pointer (some ⟨b,0,none⟩)] w λe w'=>∃v E G,e = .returned v/\Le σ ι (hp [Bf.cells 168 [p,.arr 1 0 0 0],.rows 5 1 []]) E G (hp [Bf.cells 168 [p,.fb .empty],.dead])/\St E G (hp [Bf.cells 168 [p,.fb .empty],.dead]) F W w'/\Conc E G (hp [Bf.cells 168 [p,.fb .empty],.dead]) (Fy .empty) v:=by intro a q d A k f x S le I;have h:w.heap[b]? = some (.cells #[C[0],.slice a 0 d] 168 (0,0)):=(by rw[h3];congr 1;rw[<-f,<-hC]);refine (Tryz.builder_str0 b d C[0] a q w k h (x.trans h) S).mono ?_;rintro e w' ⟨rfl,rfl⟩;obtain⟨Z,J⟩:=I.kill 1;obtain⟨U,u⟩:=Z.fbox (b:=b) (C:=#[C[0],.slice a 0 d]) (s:=.empty) (by rfl) hb ((x.trans h)) (λv j=>by simp at j;subst j;exact .fbn _ _ _ rfl);rw[eH]at U u;exact⟨_,A,ι,rfl,(le.trans J).trans u,U,.of_val _⟩
 rcases a1 with⟨hi,_⟩|⟨g,l,D,hg,g1,g2,g3,g4,g5,g6⟩
 .unfold Gz at c;rw[hi]at c;exact go none none 0 σ w.drew c.1 rfl rfl (Le.refl _ _ _) (s.drew _)
 .unfold Gz at c;rw[hg]at c;simp only[Nat.zero_mul,Nat.zero_add,Nat.sub_zero]at c;obtain⟨_,f⟩:=c;by_cases ht:l=0
  .subst ht;obtain⟨I,L⟩:=(s.drew (w.drawn+1)).newFrozen (.view ⟨g,0,none⟩ 5);have X:=(Array.getElem?_eq_some_iff.1 h3).1;refine go _ _ 0 _ (w.drew.alloc (.view ⟨g,0,none⟩ 5)) f ?_ (Lib.run_unsafeSliceData_zero _ _ _ 5 underlying228 _ _ (5,D.size) (by have:w.drew.heap[g]? = some (.cells D 5 (0,0)):=g3;simp[World.shape?,this])) L I;show (w.heap.push _)[b]? = _;rw[Array.getElem?_push,if_neg ω]
  .exact go _ _ l σ w.drew f rfl (Lib.run_unsafeSliceData_row _ _ _ _ _ _ ht) (Le.refl _ _ _) (s.drew _)
theorem Amh (h:Wk l=some r):Bm prog 96 [.loc 0 0] [.cells 168 [p,.arr 1 l.length 0 l.length],.rows 5 1 (map (O .u8) l)] (Fy r) [.cells 168 [p,.fb r],.dead]:=by
 unfold Wk at h;split at h
 .rename_i aa;cases h;by_cases u:l = []
  .subst u;exact Axh
  refine⟨⟨_,func96,κ,κ⟩,λσ F W w ι vs s S=>?_⟩;obtain⟨v,rfl,A⟩:=U4 S;obtain⟨b,hb,A⟩:=A.loc_inv;subst A;have B:=s.obj 0;unfold Cv at B;rw[Yi]at B;obtain⟨b',C,e1,_,_,h3,Y,h5⟩:=B;rw[hb]at e1;cases e1;have Y:C.size=2:=Y;have hC:C = #[C[0],C[1]]:=by
   apply Array.ext
   .simp[Y]
   .intro i hi a7
    match i with| 0=>rfl| 1=>rfl| i+2=>simp at a7;omega
  have a8:=h5 1 (.arr 1 l.length 0 l.length) C[1] rfl (by simp[Y]);have N:hp [Bf.cells 168 [p,.arr 1 l.length 0 l.length],.rows 5 1 (map (O .u8) l)] 1 = .rows 5 1 (map (O .u8) l):=rfl;have y:=a8.arr_inv N ψ;have d:=s.obj 1;unfold Cv at d;rw[N]at d;obtain⟨_,M,d⟩:=d;rw[length_map]at M;rcases d with⟨_,J⟩|⟨g,q,D,hg,g1,g2,g3,g4,g5,g6⟩
  .exact (u (by simpa using J)).elim
  .rw[length_map]at g5;unfold Gz at y;rw[hg]at y;simp only[Nat.zero_mul,Nat.zero_add,Nat.sub_zero]at y;obtain⟨ht,I⟩:=y;have c:(Ey l).length=l.length:=(by simp[Ey]);have f:∀(j:Nat) (x:UInt8),(Ey l)[j]? = some x->D[j]? = some (Value.int .u8 x.toNat):=(by intro j x hx;have hj:=Axg aa hx;obtain⟨gg,q1,q2,q3⟩:=g6;have G:(map (O .u8) l)[j]? = some (O .u8 x.toNat):=(by rw[getElem?_map,hj];rfl);have a1:j<(map (O .u8) l).length:=(List.getElem?_eq_some_iff.1 G).1;have q4:=q3 j 0 a1 ω;have q5:=(q2 j _ 0 _ G rfl).1;have:gg j 0=Value.int .u8 x.toNat:=(by generalize gg j 0=z at q5;cases q5;rfl);rw[this]at q4;simpa using q4);have U:w.heap[b]? = some (.cells #[C[0],.slice (some ⟨g,0,none⟩) (Ey l).length q] 168 (0,0)):=(by rw[h3];congr 1;rw[c];have:C[1] = .slice (some ⟨g,0,none⟩) l.length q:=I;rw[<-this,<-hC]);have V:l.length<=D.size:=(by rw[g4];omega);have call:=Tryz.builder_str b g q C[0] D (Ey l) w (by intro e;apply u;rw[<-length_eq_zero_iff,<-c,e];rfl) U g3 (by rw[c];exact g5) (by rw[c];exact V) (by rw[c];omega) f;refine call.mono ?_;rintro e w' ⟨rfl,rfl⟩;have L:(Ey l).length≠0:=(by rw[c];simpa using u);have a6:σ.le (A4 σ g (some (.cells D 5 (0,(Ey l).length)))):=(by intro b' o' a2;rw[Cy _ _ (by intro e;subst e;rw[g1]at a2;cases a2)];exact a2);have Z:(w.drew.freeze ⟨g,0,none⟩ (Ey l).length).heap[g]? = some (.cells D 5 (0,(Ey l).length)):=(by unfold World.freeze;rw[if_neg L];simp only[Array.getElem?_modify,if_true];have:w.drew.heap[g]? = some (.cells D 5 (0,0)):=g3;rw[this];simp);have R:∀b,b≠g->(w.drew.freeze ⟨g,0,none⟩ (Ey l).length).heap[b]? = w.heap[b]?:=by
    intro b hb;unfold World.freeze;split
    .rfl
    .simp only[Array.getElem?_modify];rw[if_neg (Ne.symm hb)];rfl
   have le:Le σ ι (hp [Bf.cells 168 [p,.arr 1 l.length 0 l.length],.rows 5 1 (map (O .u8) l)]) (A4 σ g (some (.cells D 5 (0,(Ey l).length)))) ι (A4 (hp [Bf.cells 168 [p,.arr 1 l.length 0 l.length],.rows 5 1 (map (O .u8) l)]) 1 .dead):=(by have:=Le.upd (ι:=ι) (H:=hp [Bf.cells 168 [p,.arr 1 l.length 0 l.length],.rows 5 1 (map (O .u8) l)]) a6 1 (ι 1) .dead ⟨λ_ e=>e,(λ_ e=>by cases e),(λ_ E1 ae ad e=>by cases e)⟩;rwa [Iq]at this);have eH:A4 (A4 (hp [Bf.cells 168 [p,.arr 1 l.length 0 l.length],.rows 5 1 (map (O .u8) l)]) 1 .dead) 0 (.cells 168 [p,.fb ⟨(Ey l).toArray⟩])=hp [Bf.cells 168 [p,.fb ⟨(Ey l).toArray⟩],.dead]:=by
    funext i
    match i with| 0=>rfl| 1=>rfl| i+2=>rfl
   have ac:b≠g:=(by intro e;have:=s.inj 0 1 g rfl rfl (by rw[hb,e];rfl) (by rw[hg];rfl);cases this);have s2:St (A4 σ g (some (.cells D 5 (0,(Ey l).length)))) ι (A4 (hp [Bf.cells 168 [p,.arr 1 l.length 0 l.length],.rows 5 1 (map (O .u8) l)]) 1 .dead) F W (w.drew.freeze ⟨g,0,none⟩ (Ey l).length):=by
    refine s.touch (hdrw:=by unfold World.freeze;split <;> exact Nat.le_succ _) 1 g (λ_ _=>rfl) (λx e=>Cy _ _ e) le R (λx e=>Cy _ _ e) (λo B=>by rw[Cd]at B;cases B;exact Z) ?_ g2 ?_ ?_ ?_ ?_ ?_
    .intro x hx X ab;exact hx (s.inj x 1 g X rfl ab (by rw[hg];rfl))
    .intro b0 X;rw[Cd]at X;cases X
    .unfold Cv;rw[Cd];trivial
    .unfold World.freeze;split <;> rfl
    .unfold World.freeze;split <;> rfl
    .unfold World.freeze;split <;> rfl
   obtain⟨s3,E⟩:=s2.fbox (b:=b) (C:=#[C[0],.slice (some ⟨g,0,none⟩) (Ey l).length q]) (s:=⟨(Ey l).toArray⟩) (by rfl) hb ((R b ac).trans U) (λv A=>by simp only[getElem?_toArray,getElem?_cons_succ,getElem?_cons_zero,Option.some.injEq]at A;subst A;have k:(ByteArray.mk (Ey l).toArray).size=(Ey l).length:=(by simp[ByteArray.size]);rw[<-k];refine .fb _ g q D (by rw[Cd,k]) (by rw[k];exact L) (by rw[k,c];omega) (by rw[k,c];exact V) (by rw[k,c];omega) λj x hx=>f j x (by simpa using hx));rw[eH]at s3 E;exact⟨_,_,ι,rfl,le.trans E,s3,.of_val _⟩
 .cases h
theorem Ami {f:ByteArray} (h:(bif Nat.beq f.size 0 then none else some f)=some r):Bm prog 96 [.loc 0 0] [.cells 168 [p,.fb f]] (Fy r) [.cells 168 [p,.fb f]]:=by
 have q:r.size≠0/\f=r:=by cases d:Nat.beq f.size 0 with| true=>rw[d]at h;cases h| false=>rw[d]at h;cases h;exact⟨(λe=>by rw[e]at d;exact Bool.noConfusion d),rfl⟩
 clear h;obtain⟨q,E⟩:=q;subst E;refine⟨⟨_,func96,κ,κ⟩,λσ F W w ι vs s y=>?_⟩;obtain⟨v,rfl,B⟩:=U4 y;obtain⟨b,d,B⟩:=B.loc_inv;subst B;have G:=s.obj 0;unfold Cv at G;rw[Yi]at G;obtain⟨Y,C,N,_,_,h3,A,U⟩:=G;rw[d]at N;cases N;have A:C.size=2:=A;have M:C = #[C[0],C[1]]:=by
  apply Array.ext
  .simp[A]
  .intro i hi I
   match i with| 0=>rfl| 1=>rfl| i+2=>simp at I;omega
 have l:=U 1 (.fb f) C[1] rfl (by simp[A]);generalize C[1]=u at M l;generalize C[0]=R at M;subst M;cases l with
 | cc l=>
  cases l with
  | fbn _ a a1 h0=>exact (q h0).elim
  | fb _ g a1 D S h0 z L X J=>
   have hg:=s.sto _ _ S;have k:f.data.toList.length=f.size:=(by rw[Array.length_toList];rfl);have call:=Tryz.builder_str b g a1 R D f.data.toList w (by intro e;rw[e]at k;exact h0 k.symm) (by rw[k];exact h3) hg (by rw[k];exact z) (by rw[k];exact L) (by rw[k];omega) λj x hx=>J j x (by simpa using hx);refine call.mono ?_;rintro e w' ⟨rfl,rfl⟩;have hw:w.drew.freeze ⟨g,0,none⟩ f.data.toList.length=w.drew:=by
    unfold World.freeze;split
    .rfl
    .have:w.drew.heap.modify g (λo=>match o with|.cells c elem (lo,hi)=>.cells c elem (if lo==hi then (0,0+f.data.toList.length) else (min lo 0,max hi (0+f.data.toList.length))) | o=>o)=w.drew.heap:=by
      apply Array.ext_getElem?;intro i;rw[Array.getElem?_modify];split
      .rename_i e;subst e;have:w.drew.heap[g]? = some (.cells D 5 (0,f.size)):=hg;rw[this];simp[k,Ne.symm h0]
      .rfl
     exact congrArg (λh=>{w.drew with heap:=h}) this
   rw[hw];have V:(⟨f.data.toList.toArray⟩:ByteArray)=f:=ψ;rw[V];exact⟨_,σ,ι,rfl,Le.refl _ _ _,s.drew _,.of_val _⟩
end Go.Ab
namespace Go.Ab
open Go Go.Proofs Go.Proofs.Tryz
set_option linter.unusedVariables false
class OK {α:Type} (o:Option α) (G:outParam (α->Prop)):Prop where
 ok:∀{r:α},o=some r->G r
theorem okz {α:Type} {G:α->Prop}:OK (none:Option α) G:=⟨λh=>by cases h⟩
section
variable {P:Program} {C:Cfg} {X:Nat->Bv->Hp->Prop} {U:Nat->Nat->Bv->Hp->Prop} {V:Nat->Bv->Hp->Prop} {n:Nat} {e:Bv} {H:Hp} {β:Type} {r:β}
variable {T:C6} {an:Nat->Ann} {nl:Nat->List (Nat×Nat)} {ops:Array Oper} {o:Oper} {os:List Oper} {acc:Kc} {K:Nat->Bv->Hp->Kc->Prop}
variable {fn:Func} {hi i lo:Int} {xs ys zs:List AV} {hs:List Bf} {b kk n0:Nat} {E S α:Type} {J:E->Option β} {l:List α} {g:List α->List AV} {m:List α->Option β} {s0:S} {I:S->List (Nat×AV)} {hv:S->List (Nat×Bf)} {x:α} {ra:α->AV} {G:α->Prop}
theorem Ij {p:Nat×Bool} {s:Nat} {b:Bool} {m m':Option β} (h:(bif b then m else m')=some r) (d:b=true->m=some r->Fh (E8 P T an nl ops (o::os) n (A4 e s (.val (.bool true))) H acc K)) (j:b=false->m'=some r->Fh (E8 P T an nl ops (o::os) n (A4 e s (.val (.bool false))) H acc K)) (hg:o.guard=some p:=by exact rfl) (hs:(ops[p.1]?).bind (·.dst)=some s:=by exact rfl) (hb:e s = .val (.bool b):=by exact rfl):Fh (E8 P T an nl ops (o::os) n e H acc K):=Awn h d j hb
theorem nw {c:Code} (k:wc P C c X U V n e H):Fh (wc P C c X U V n e H):=.mk k
theorem C7 {o:S⊕E} {x:E} (h:some (Sum.inr x)=some o) (d:∀x,Sum.inr x=o->J x=some r:=by assumption):J x=some r:=d x (Option.some.inj h)
theorem lpj {o:S} {J:S->Option β} {x:S} (h:some x=some o) (d:∀y,y=o->J y=some r:=by assumption):J x=some r:=d x (Option.some.inj h)
theorem lpn {o:S⊕E} {s':S} {K:Nat->Bv->Hp->Prop} {d:S->Prop} {H0:Hp} (h:some (Sum.inl s')=some o) (q:∀s' s j k,Sum.inl s'=o->Hn j (I s')->Ho k (Cq H0 (hv s')) n0 n0->d s'->K s j k:=by assumption) (hs:Hn e (I s'):=by (repeat refine⟨rfl,?_⟩);exact trivial) (u:Ho H (Cq H0 (hv s')) n0 n0:=by (repeat refine⟨⟨rfl,rfl⟩,?_⟩);exact trivial) (hi:d s':=by first|trivial|exact rfl | ((repeat refine Ir ?_ _ _);first|exact rfl|assumption)):K n e H:=q s' n e H (Option.some.inj h) hs u hi
theorem jnn {o x:E} {s:S} {J:S->Prop} {K:Nat->Bv->Hp->Prop} {H0:Hp} (h:some x=some o) (k:∀s q d j,J s->Hn d (I s)->Ho j (Cq H0 (hv s)) n0 n0->K q d j:=by assumption) (u:J s:=by exact Option.some.inj h) (hs:Hn e (I s):=by (repeat refine⟨rfl,?_⟩);exact trivial) (y:Ho H (Cq H0 (hv s)) n0 n0:=by (repeat refine⟨⟨rfl,rfl⟩,?_⟩);exact trivial):K n e H:=k s n e H u hs y
theorem Ss {o:Option α} {m:α->Option β} {f:FuncId} {args:List AV} {K:Eff->Nat->Prop} (h:o.bind m=some r) [i:OK o G] (k:∀v,m v=some r->K ⟨ra v,[],[]⟩ n) (d:∀v,G v->A6 P f args (ra v):=by exact λ_ h=>h) (j:args.all AV.free=true:=by exact rfl):Fk P n H f args K := Db h λv hv h=>Fk.mk _ (d v (i.ok hv)) j (k v h)
theorem Amj {o:Option α} {m:α->Option β} {f:FuncId} {args d:List AV} {K:Eff->Nat->Prop} (h:o.bind m=some r) [i:OK o G] (k:∀v,m v=some r->K ⟨ra v,[],[]⟩ n) (j:∀v,G v->A6 P f d (ra v):=by exact λ_ h=>h) (hs:Px args d:=by (repeat first|refine⟨Sub.refl _,?_⟩|refine⟨Sub.nil _,?_⟩);exact trivial) (q:args.all AV.free=true:=by exact rfl):Fk P n H f args K := Db h λv hv h=>Fk.mk _ (A6.sub (j v (i.ok hv)) hs (Sub.refl _)) q (k v h)
theorem Yj {o:Option α} {m:α->Option β} {f:FuncId} {args largs:List AV} {hs':α->List Bf} {K:Eff->Nat->Prop} (l:List Nat) (h:o.bind m=some r) [i:OK o G] (k:∀v,m v=some r->K ⟨ren (C1 n l) (ra v),Ed (C1 n l) 0 hs++Ci (C1 n l) l.length ((hs' v).length-l.length),Ed (C1 n l) 0 (hs' v)⟩ (n+((hs' v).length-l.length))) (d:∀v,G v->Bm P f largs hs (ra v) (hs' v):=by exact λ_ h=>h) (j:largs.map (ren (C1 n l))=args:=by exact rfl) (ok:∀v,Jx n l largs hs (ra v) (hs' v)=true:=by exact λ_=>rfl) (q:Mo H (Ed (C1 n l) 0 hs):=by (repeat refine⟨rfl,?_⟩);exact trivial):Fk P n H f args K := Db h λv hv h=>Fk.act l largs hs (ra v) (hs' v) (d v (i.ok hv)) j (ok v) q (k v h)
theorem Axi {F:List α->Option (List α)} {cmp:α->α->Option Int} {b:Oper} {c:Call} {x:Operand} {f g d E sz:Nat} {eA:α->AV} {K:Bv->Hp->Prop} (s:Nat) (V:(∀x y n,cmp x y=some n->A6 P g [eA x,eA y] (O .i64 n))->(∃o,Is cmp l o)->l≠[]->Mn P f [.arr 0 l.length 0 l.length,.fn g []] [.rows E sz (l.map eA)] (λa hs'=>∃o,Is cmp l o/\a = .tup []/\hs' = [.rows E sz (o.map eA)])) (h:(Rl.mk F cmp l).bind m=some r) [i:OK (F l) λo=>Bm P f [.arr 0 l.length 0 l.length,.fn g []] [.rows E sz (l.map eA)] (.tup []) [.rows E sz (o.map eA)]] [j:∀x y,OK (cmp x y) λn=>A6 P g [eA x,eA y] (O .i64 n)] (k:∀o,m o=some r->K (A4 e d (.tup [])) (A4 H s (.rows E sz (o.map eA)))) (X:b.op = .call c:=by exact rfl) (u:c.callee = .value x:=by exact rfl) (hx:ev e x = .fn f []:=by exact rfl) (A:b.dst=some d:=by exact rfl) (ha:[.arr s l.length 0 l.length,.fn g []]=c.args.toList.map (ev e):=by exact rfl) (hn:Nat.blt s n=true:=by exact rfl) (hh:H s = .rows E sz (l.map eA):=by exact rfl):Agf P b n e H K:=by
 have B:∀R:AV->List Bf->Prop,Mn P f [.arr 0 l.length 0 l.length,.fn g []] [.rows E sz (l.map eA)] R->(∃o:List α,R (.tup []) [.rows E sz (o.map eA)])->(∀a hs',R a hs'->∃o:List α,a = .tup []/\hs' = [.rows E sz (o.map eA)]/\m o=some r)->Agf P b n e H K:=by
  rintro R hR ⟨o0,h0⟩ N;refine .mk c x f [] [s] _ _ R _ _ hR X u hx (by rw[append_nil,<-ha];rfl) h0 (λa hs' q=>?_) ⟨hh,trivial⟩ λa hs' q=>?_
  .obtain⟨o,rfl,rfl,_⟩:=N a hs' q;refine⟨?_,rfl⟩;simp[Jx,Nj,hn,AV.under,AV.under1,Bf.under]
  .obtain⟨o,rfl,rfl,I⟩:=N a hs' q;have:=k o I;rw[A];exact this
 unfold Rl.bind at h;cases L:Nat.ble l.length 12 with| true=>simp only[L,cond_true]at h;obtain⟨o,D,M⟩:=Option.bind_eq_some_iff.1 h;exact B _ (i.ok D).toR ⟨o,rfl,rfl⟩ λa hs' q=>⟨o,q.1,q.2,M⟩| false=>simp only[L,cond_false]at h;obtain⟨⟨o,D⟩,M⟩:=Aw5 h;exact B _ (V (λx y n q=>(j x y).ok q) ⟨o,D⟩ (by rintro rfl;cases L)) ⟨o,o,D,rfl,rfl⟩ λa hs' ⟨U,q1,I,q3⟩=>⟨U,I,q3,M U q1⟩
theorem L8 {f:α->AV} {m:α->Option β} {K:Nat->AV->Prop} (h:(Ah l i).bind m=some r) (k:∀(n:Nat) (x:α),i=n->l[n]? = some x->m x=some r->K n (f x)) (d:ys=l.map f:=by first|exact rfl|exact Kg _|exact Kh _):Tw ys i K:=Alu d h k
theorem Kj {f:α->AV} {m:α->Option β} {K:Nat->Prop} {len:Nat} (h:(Ah l i).bind m=some r) (k:∀(n:Nat) (x:α),i=n->l[n]? = some x->m x=some r->K n) (d:ys=l.map f:=by first|exact rfl|exact Kg _|exact Kh _) (j:len=l.length:=by first|exact rfl|assumption|exact H7 (by assumption) | ((repeat refine Ir ?_ _ _);first|exact rfl|assumption)) (q:kk=l.length:=by first|exact rfl|assumption|exact H7 (by assumption) | ((repeat refine Ir ?_ _ _);first|exact rfl|assumption)):Q8 len kk ys i K:=Awp d j q h k
theorem U5 {f:α->AV} {m:α->Option β} {K:Nat->Prop} {off len:Nat} (h:(Ke l off len i).bind m=some r) (k:∀(n:Nat) (x:α),i=n->l[off+n]? = some x->m x=some r->K n) (d:ys=l.map f:=by first|exact rfl|exact Kg _|exact Kh _) (j:kk=l.length:=by first|exact rfl|assumption|exact H7 (by assumption) | ((repeat refine Ir ?_ _ _);first|exact rfl|assumption)):Q8 len kk ys i K:=Awq d j h k
theorem Qk {f:α->AV} {K:Int->Prop} (k:K (l.length:Int)) (d:ys=l.map f:=by first|exact rfl|exact Kg _|exact Kh _):Mr ys K:=Awz d k
theorem Ql {f:α->AV} {K:Prop} (k:K) (d:ys=l.map f:=by first|exact rfl|exact Kg _|exact Kh _) (h:kk=l.length:=by first|exact rfl|assumption|exact H7 (by assumption) | ((repeat refine Ir ?_ _ _);first|exact rfl|assumption)):Hm kk ys K:=Aw0 d h k
theorem Qm {K:Prop} (k:K):Hm 0 [] K:=.mk rfl k
theorem Qo {f:α->AV} {n i:Nat} {K:AV->Prop} (k:K (f x)) (d:ys=l.map f:=by first|exact rfl|exact Kg _|exact Kh _) (h:kk=l.length:=by first|exact rfl|assumption|exact H7 (by assumption) | ((repeat refine Ir ?_ _ _);first|exact rfl|assumption)) (hi:i=n/\l[n]? = some x:=by first|exact⟨Nat.zero_add _,by assumption⟩|exact⟨rfl,by assumption⟩):Lv kk i ys K:=Aws d h hi.1 hi.2 k
theorem Amk {f:α->AV} {n i:Nat} {j:Int} {p:AV} {K:List AV->Prop} (k:K ((C2 l j x).map f)) (d:ys=l.map f:=by first|exact rfl|exact Kg _|exact Kh _) (hp:p=f x:=by exact rfl) (hi:i=n/\j=(n:Int):=by first|exact⟨Nat.zero_add _,by assumption⟩|exact⟨rfl,by assumption⟩|exact⟨rfl,Awo _ (by assumption)⟩):V8 ys i p K:=Ok d hp hi.1 hi.2 k
theorem Jb {ys:List α} {f:α->AV} {len:Nat} {K:List AV->Nat->Prop} {j:List AV->Nat->Nat->Prop} (h:(B4 b l ys).bind m=some r) (k:∀o:List α,m o=some r->K (o.map f) o.length) (d:xs=l.map f/\zs=ys.map f:=by first|exact⟨rfl,rfl⟩ | (refine⟨?_,?_⟩;rotate_left;exact rfl;exact rfl)) (q:kk=l.length:=by first|exact rfl|assumption|exact H7 (by assumption) | ((repeat refine Ir ?_ _ _);first|exact rfl|assumption)) (s:len=l.length:=by first|exact rfl|assumption|exact H7 (by assumption) | ((repeat refine Ir ?_ _ _);first|exact rfl|assumption)):Mq xs zs kk len b K j:=Ri d.1 d.2 q s h k
theorem Aml {l:List Int} {s:ByteArray} {len:Nat} {m:List Int->Option β} {K:List AV->Nat->Prop} {d:List AV->Nat->Nat->Prop} (h:(B4 b l (Mv s)).bind m=some r) (k:∀o:List Int,m o=some r->K (o.map λn=>.val (.int .u8 n)) o.length) (j:xs=l.map λn=>.val (.int .u8 n):=by exact rfl) (q:kk=l.length:=by first|exact rfl|assumption|exact H7 (by assumption) | ((repeat refine Ir ?_ _ _);first|exact rfl|assumption)) (u:len=l.length:=by first|exact rfl|assumption|exact H7 (by assumption) | ((repeat refine Ir ?_ _ _);first|exact rfl|assumption)):Mq xs (Jf s) kk len b K d:=Awv j q u h k
class GL {α:Type} (g:List α->List AV) (f:outParam (α->AV)):Prop where
 eq:∀l,g l=l.map f
instance:GL Bj Et:=⟨Kg⟩
instance:GL Gq E4:=⟨Kh⟩
theorem Amm {f:α->AV} [i:GL g f] {ys:List α} {len:Nat} {K:List AV->Nat->Prop} {d:List AV->Nat->Nat->Prop} (h:(B4 b l ys).bind m=some r) (k:∀o:List α,m o=some r->K (g o) o.length) (j:zs=ys.map f:=by first|exact rfl|exact GL.eq _) (q:kk=l.length:=by first|exact rfl|assumption|exact H7 (by assumption) | ((repeat refine Ir ?_ _ _);first|exact rfl|assumption)) (s:len=l.length:=by first|exact rfl|assumption|exact H7 (by assumption) | ((repeat refine Ir ?_ _ _);first|exact rfl|assumption)):Mq (g l) zs kk len b K d:=Aww i.eq (i.eq l) j q s h k
theorem Aby {ys:List α} {f:α->AV} {K:List AV->Nat->Prop} (h:(B4 b [] ys).bind m=some r) (k:∀o:List α,m o=some r->K (o.map f) o.length) (d:zs=ys.map f:=by exact rfl):Q9 zs b K:=Aly d h k
theorem Amn {f:α->AV} [i:GL g f] {ys:List α} {K:List AV->Nat->Prop} (h:(B4 b [] ys).bind m=some r) (k:∀o:List α,m o=some r->K (g o) o.length) (d:zs=g ys:=by exact rfl):Q9 zs b K:=Awx i.eq (d.trans (i.eq ys)) h k
theorem Iu {z:α} {f:α->AV} {j:AV} {len d:Int} {K:Nat->List AV->Prop} (h:(F5 b len d z).bind m=some r) (k:∀o:List α,m o=some r->K o.length (o.map f)) (q:j=f z:=by first|exact (rfl:_=O _ _) | exact (rfl:_=As _) | exact rfl):Tx len d b j K:=Awy q h k
theorem Qp {f:α->AV} {K:List AV->Prop} (h:(Ei l lo hi).bind m=some r) (k:∀d:List α,m d=some r->K (d.map f)) (j:ys=l.map f:=by first|exact rfl|exact Kg _|exact Kh _):Mp ys lo hi K:=Af7 j h k
theorem Amo {f:α->AV} [i:GL g f] {K:List AV->Prop} (h:(Ei l lo hi).bind m=some r) (k:∀d:List α,m d=some r->K (g d)):Mp (g l) lo hi K:=Awt i.eq (i.eq l) h k
theorem U6 {f:α->AV} [i:GL g f] {K:List AV->Prop} (h:(Ei l lo l.length).bind m=some r) (k:∀d:List α,m d=some r->K (g d)):Mp (g l) lo (g l).length K:=Awu i.eq (i.eq l) h k
theorem Yk {f:α->AV} {K:List AV->Prop} (h:(Ei l lo l.length).bind m=some r) (k:∀d:List α,m d=some r->K (d.map f)) (j:ys=l.map f:=by first|exact rfl|exact Kg _|exact Kh _):Mp ys lo ys.length K:=Alx j h k
theorem Fr {step:S->Option (S⊕E)} {b:Code} (h:(An step s0).bind J=some r) (I:S->List (Nat×AV)) (hv:S->List (Nat×Bf)) (d:S->Prop) (j:∀(s:S) (u:Nat->Value) (K:Nat->Bv->Hp->Prop) (o:S⊕E),step s=some o->(∀x,.inr x=o->J x=some r)->(∀k A q y,.inl k=o->Hn q (I k)->Ho y (Cq H (hv k)) n n->d k->K A q y)->d s -> wc P C b K U V n (Kt (Hh b) e u (I s)) (Cq H (hv s))) (hb:∀s,Ly n (I s) (hv s)=true:=by exact λ_=>rfl) (hs:Hn e (I s0):=by (repeat refine⟨rfl,?_⟩);exact trivial) (B:Ho H (Cq H (hv s0)) n n:=by (repeat refine⟨⟨rfl,rfl⟩,?_⟩);exact trivial) (h0:d s0:=by first|exact rfl|assumption|exact H7 (by assumption) | ((repeat refine Ir ?_ _ _);first|exact rfl|assumption)):wc P C (.loop b) X U V n e H:=Al5 h I hv d hb hs B h0 j
theorem Axj {step:S->Option (S⊕E)} {b:Code} (h:(An step s0).bind J=some r) (I:S->List (Nat×AV)) (hv:S->List (Nat×Bf)) (d:∀(s:S) (u:Nat->Value) (K:Nat->Bv->Hp->Prop) (o:S⊕E),step s=some o->(∀x,.inr x=o->J x=some r)->(∀j y k q,.inl j=o->Hn k (I j)->Ho q (Cq H (hv j)) n n->True->K y k q) -> wc P C b K U V n (Kt (Hh b) e u (I s)) (Cq H (hv s))) (hb:∀s,Ly n (I s) (hv s)=true:=by exact λ_=>rfl) (hs:Hn e (I s0):=by (repeat refine⟨rfl,?_⟩);exact trivial) (A:Ho H (Cq H (hv s0)) n n:=by (repeat refine⟨⟨rfl,rfl⟩,?_⟩);exact trivial):wc P C (.loop b) X U V n e H:=Al5 h I hv (λ_=>True) hb hs A trivial λs u K o B D L _=>d s u K o B D L
theorem Ag0 {S':Type} {c:Code} {o:Option S'} {m:S'->Option β} (d:S->S') (h:o.bind m=some r) (I:S->List (Nat×AV)) (hv:S->List (Nat×Bf)) (A:∀x,o=some x->∀(K:Nat->Bv->Hp->Prop),(∀s B j k,d s=x->Hn j (I s)->Ho k (Cq H (hv s)) n n->K B j k)->(∀y,y=x->m y=some r)->wc P C c K U V n e H) (D:∀(s:S) (u:Nat->Value),m (d s)=some r->X n (Kt (Hh c) e u (I s)) (Cq H (hv s))) (hb:∀s,Ly n (I s) (hv s)=true:=by exact λ_=>rfl):wc P C c X U V n e H := Alt h λx L q=>Rk (λs=>d s=x) I hv hb (λK M=>A x L K M q) λs u hs=>D s u (q _ hs)
theorem L9 {c:Code} {o:Option S} {m:S->Option β} (h:o.bind m=some r) (I:S->List (Nat×AV)) (hv:S->List (Nat×Bf)) (k:∀x,o=some x->∀(K:Nat->Bv->Hp->Prop),(∀s q d j,s=x->Hn d (I s)->Ho j (Cq H (hv s)) n n->K q d j)->(∀y,y=x->m y=some r)->wc P C c K U V n e H) (A:∀(s:S) (u:Nat->Value),m s=some r->X n (Kt (Hh c) e u (I s)) (Cq H (hv s))) (hb:∀s,Ly n (I s) (hv s)=true:=by exact λ_=>rfl):wc P C c X U V n e H:=Ag0 (λs=>s) h I hv k A hb
abbrev C0:Cfg:={T:=Ct,an:=λ_=>.ask}
theorem pw {f:FuncId} {c:Code} {args:List AV} {r:AV} (C:Cfg) (k:prog.funcs[f]? = some fn) (hv:wc prog C c (λ_ e H=>Re C.T fn.results.toList (· = r) e H) (λ_ _ _ _=>False) (λ_ e H=>Re C.T fn.results.toList (· = r) e H) 0 (T2 args) H0) (q:C.T=Ct:=by exact rfl) (hb:fn.body=some c:=by exact rfl) (d:(fn.name == "runtime.NumGoroutine")=false:=by kernel_rfl) (j:T3 fn c args.length=true:=by kernel_rfl) (h:r.free=true:=by exact rfl):A6 prog f args r:=Aw1 (by rw[q];exact Ama) Wf k hb d j h hv
theorem aw {f:FuncId} {c:Code} {args:List AV} {r:AV} {hs':List Bf} (C:Cfg) (j:Bool) (q:prog.funcs[f]? = some fn) (hv:wc prog C c (λ_ e H=>Rh C.T j fn.results.toList r hs' e H) (λ_ _ _ _=>False) (λ_ e H=>Rh C.T j fn.results.toList r hs' e H) hs.length (T2 args) (hp hs)) (s:C.T=Ct:=by exact rfl) (hb:fn.body=some c:=by exact rfl) (d:(fn.name == "runtime.NumGoroutine")=false:=by kernel_rfl) (k:T3 fn c args.length=true:=by kernel_rfl) (h:Af2 hs r hs'=true:=by exact rfl):Bm prog f args hs r hs':=Aw2 j (by rw[s];exact Ama) Wf q hb d k h hv
end
variable {P Q:Prop}
theorem opk {P:Program} {T:C6} {an:Nat->Ann} {nl:Nat->List (Nat×Nat)} {o:Oper} {n:Nat} {e:Bv} {H:Hp} {acc:Kc} {K:Nat->Bv->Hp->Kc->Prop} (k:opK P T an nl o n e H acc K):opK P T an nl o n e H acc K:=k
theorem cnd {t:Bool} {A B:Prop} (k:bif t then A else B):bif t then A else B:=k
structure Hd (Q:Prop):Prop where
 get:Q
theorem Z (k:Q) (h:Hd Q->P:=by
  intro q
  repeat first
    | ((with_reducible show Fh (E8 _ _ _ _ _ (_::_) _ _ _ _ _));(first|refine nx ?_|refine Pz ?_|refine Py ?_))
    | ((with_reducible refine opk ?_);conv=>whnf
       first
      | ((with_reducible show Fh _);refine nw ?_)
      | ((with_reducible show Ih _ _ _);refine Ih.mk _ rfl ?_)
      | ((with_reducible show Mr _ _);refine Qk ?_)
      | ((with_reducible show Lv _ _ _ _);refine Qo ?_)
      | ((with_reducible show Hm _ _ _);(first|refine Ql ?_|refine Qm ?_)))
    | ((with_reducible show Fh (E8 _ _ _ _ _ [] _ _ _ _ _));refine Ld ?_)
    | ((with_reducible show Fh (wc _ _ _ _ _ _ _ _ _));refine nw ?_)
    | with_reducible refine A9 ?_
    | with_reducible refine Gl ?_
    | with_reducible refine Agb ?_
    | with_reducible refine Nm ?_
    | with_reducible refine Mw ?_
    | with_reducible refine Hi ?_
    | with_reducible refine Al2 ?_
    | with_reducible refine Agd ?_
    | with_reducible refine Agc ?_
    | ((with_reducible refine cnd ?_);first|refine Hg rfl ?_|refine Afw rfl ?_)
    | ((with_reducible show Nl _ _ _);refine Nl.mk κ ?_)
    | ((with_reducible show wc _ _ (.cond _ _ _) _ _ _ _ _ _);first|refine Aax ?_|refine Aay ?_)
    | refine nw ?_
    | refine nx ?_
    | refine Ld ?_
    | refine Pz ?_
    | refine Py ?_
    | (conv=>whnf
       first
      | ((with_reducible show Fh _);refine nw ?_)
      | ((with_reducible show Ih _ _ _);refine Ih.mk _ rfl ?_)
      | ((with_reducible show Mr _ _);refine Qk ?_)
      | ((with_reducible show Lv _ _ _ _);refine Qo ?_)
      | ((with_reducible show Hm _ _ _);(first|refine Ql ?_|refine Qm ?_)))
  exact q.get):P:=h ⟨k⟩
theorem ZS (k:Q) (h:Hd Q->P:=by
  intro q
  repeat first
    | ((with_reducible show Fh (E8 _ _ _ _ _ (_::_) _ _ _ _ _));(first|refine nx ?_|refine Pz ?_|refine Py ?_))
    | ((with_reducible refine opk ?_);conv=>whnf
       first
      | ((with_reducible show Fh _);refine nw ?_)
      | ((with_reducible show Ih _ _ _);refine Ih.mk _ rfl ?_)
      | ((with_reducible show Mr _ _);refine Qk ?_)
      | ((with_reducible show Lv _ _ _ _);refine Qo ?_)
      | ((with_reducible show Hm _ _ _);(first|refine Ql ?_|refine Qm ?_)))
    | ((with_reducible show Fh (E8 _ _ _ _ _ [] _ _ _ _ _));refine Ld ?_)
    | ((with_reducible show Fh (wc _ _ _ _ _ _ _ _ _));refine nw ?_)
    | with_reducible refine A9 ?_
    | with_reducible refine Agb ?_
    | with_reducible refine Nm ?_
    | with_reducible refine Mw ?_
    | with_reducible refine Hi ?_
    | with_reducible refine Agd ?_
    | with_reducible refine Agc ?_
    | ((with_reducible refine cnd ?_);first|refine Hg rfl ?_|refine Afw rfl ?_)
    | ((with_reducible show Nl _ _ _);refine Nl.mk κ ?_)
    | ((with_reducible show wc _ _ (.cond _ _ _) _ _ _ _ _ _);first|refine Aax ?_|refine Aay ?_)
    | refine nw ?_
    | refine nx ?_
    | refine Ld ?_
    | refine Pz ?_
    | refine Py ?_
    | (conv=>whnf
       first
      | ((with_reducible show Fh _);refine nw ?_)
      | ((with_reducible show Ih _ _ _);refine Ih.mk _ rfl ?_)
      | ((with_reducible show Mr _ _);refine Qk ?_)
      | ((with_reducible show Lv _ _ _ _);refine Qo ?_)
      | ((with_reducible show Hm _ _ _);(first|refine Ql ?_|refine Qm ?_)))
  exact q.get):P:=h ⟨k⟩
theorem ZO (k:Q) (h:Hd Q->P:=by
  intro q
  repeat first
    | ((with_reducible show Fh (E8 _ _ _ _ _ (_::_) _ _ _ _ _));(first|refine nx ?_|refine Pz ?_|refine Py ?_))
    | ((with_reducible refine opk ?_);conv=>whnf
       first
      | ((with_reducible show Ih _ _ _);refine Ih.mk _ rfl ?_)
      | ((with_reducible show Mr _ _);refine Qk ?_)
      | ((with_reducible show Lv _ _ _ _);refine Qo ?_)
      | ((with_reducible show Hm _ _ _);(first|refine Ql ?_|refine Qm ?_)))
    | ((with_reducible show Fh (E8 _ _ _ _ _ [] _ _ _ _ _));refine Ld ?_)
    | ((with_reducible show Nl _ _ _);refine Nl.mk κ ?_)
    | refine nx ?_
    | refine Ld ?_
    | refine Pz ?_
    | refine Py ?_
    | (conv=>whnf
       first
      | ((with_reducible show Ih _ _ _);refine Ih.mk _ rfl ?_)
      | ((with_reducible show Mr _ _);refine Qk ?_)
      | ((with_reducible show Lv _ _ _ _);refine Qo ?_)
      | ((with_reducible show Hm _ _ _);(first|refine Ql ?_|refine Qm ?_)))
  exact q.get):P:=h ⟨k⟩
theorem Y (h:P:=by
  repeat' first
    | ((with_reducible show Fh (E8 _ _ _ _ _ (_::_) _ _ _ _ _));first|refine nx ?_|refine Pz ?_|refine Py ?_|refine Ij h (λ_ h=>?_) λ_ h=>?_)
    | ((with_reducible refine opk ?_);conv=>whnf
       first
      | ((with_reducible show Fh _);refine nw ?_)
      | ((with_reducible show Ih _ _ _);refine Ih.mk _ rfl ?_)
      | ((with_reducible show Mr _ _);refine Qk ?_)
      | ((with_reducible show Fk _ _ _ _ _ _);(first|refine Ss h (λ_ h=>?_) | refine Amj h λ_ h=>?_))
      | ((with_reducible show Tw _ _ _);refine L8 h λ_ _ _ _ h=>?_)
      | ((with_reducible show Q8 _ _ _ _ _);(first|refine Kj h (λ_ _ _ _ h=>?_) | refine U5 h λ_ _ _ _ h=>?_))
      | ((with_reducible show Lv _ _ _ _);refine Qo ?_)
      | ((with_reducible show V8 _ _ _ _);refine Amk ?_)
      | ((with_reducible show Mq _ _ _ _ _ _ _);(first|refine Aml h (λ_ h=>?_) | refine Jb h (λ_ h=>?_) | refine Amm h λ_ h=>?_))
      | ((with_reducible show Q9 _ _ _);(first|refine Aby h (λ_ h=>?_) | refine Amn h λ_ h=>?_))
      | ((with_reducible show Tx _ _ _ _ _);refine Iu h λ_ h=>?_)
      | ((with_reducible show Mp _ _ _ _);(first|refine U6 h (λ_ h=>?_) | refine Yk h (λ_ h=>?_) | refine Amo h (λ_ h=>?_) | refine Qp h λ_ h=>?_))
      | ((with_reducible show Hm _ _ _);(first|refine Ql ?_|refine Qm ?_))
      | ((with_reducible show Aad _ _ _);refine Wn h λ_ h=>?_)
      | ((with_reducible show Z9 _ _ _ _);refine Wm h λ_ h=>?_)
      | ((with_reducible show Aaa _ _ _);refine Aaw h λ_ h=>?_)
      | ((with_reducible show Aab _ _ _ _);refine Al0 h λ_ h=>?_)
      | ((with_reducible show Aac _ _ _ _);refine Af9 h λ_ _ _ _ h=>?_)
      | ((with_reducible show Aae _ _);refine Hu h λh=>?_)
      | ((with_reducible show Aaf _ _ _ _ _);refine Alv h λ_ h=>?_)
      | ((with_reducible show Aag _ _ _ _);refine Alw h λ_ h=>?_))
    | ((with_reducible show Fh (E8 _ _ _ _ _ [] _ _ _ _ _));refine Ld ?_)
    | ((with_reducible show Fh (wc _ _ _ _ _ _ _ _ _));refine nw ?_)
    | with_reducible refine A9 ?_
    | with_reducible refine Gl ?_
    | with_reducible refine Agb ?_
    | with_reducible refine Nm ?_
    | with_reducible refine Mw ?_
    | with_reducible refine Hi ?_
    | with_reducible refine Al2 ?_
    | with_reducible refine Agd ?_
    | with_reducible refine Agc ?_
    | ((with_reducible refine cnd ?_);first|refine Hg rfl ?_|refine Afw rfl ?_)
    | ((with_reducible show wc _ _ (.cond _ _ _) _ _ _ _ _ _);first|refine Es h (λ_ h=>?_) (λ_ h=>?_) | refine Aax ?_|refine Aay ?_)
    | ((with_reducible show Nl _ _ _);refine Nl.mk κ ?_)
    | refine nx ?_
    | refine Ld ?_
    | refine Pz ?_
    | refine Py ?_
    | refine Ij h (λ_ h=>?_) (λ_ h=>?_)
    | exact lpn h
    | exact jnn h
    | replace h:=C7 h
    | replace h:=lpj h
    | refine nw ?_
    | (conv=>whnf
       first
      | ((with_reducible show Fh _);refine nw ?_)
      | ((with_reducible show Ih _ _ _);refine Ih.mk _ rfl ?_)
      | ((with_reducible show Mr _ _);refine Qk ?_)
      | ((with_reducible show Fk _ _ _ _ _ _);(first|refine Ss h (λ_ h=>?_) | refine Amj h λ_ h=>?_))
      | ((with_reducible show Tw _ _ _);refine L8 h λ_ _ _ _ h=>?_)
      | ((with_reducible show Q8 _ _ _ _ _);(first|refine Kj h (λ_ _ _ _ h=>?_) | refine U5 h λ_ _ _ _ h=>?_))
      | ((with_reducible show Lv _ _ _ _);refine Qo ?_)
      | ((with_reducible show V8 _ _ _ _);refine Amk ?_)
      | ((with_reducible show Mq _ _ _ _ _ _ _);(first|refine Aml h (λ_ h=>?_) | refine Jb h (λ_ h=>?_) | refine Amm h λ_ h=>?_))
      | ((with_reducible show Q9 _ _ _);(first|refine Aby h (λ_ h=>?_) | refine Amn h λ_ h=>?_))
      | ((with_reducible show Tx _ _ _ _ _);refine Iu h λ_ h=>?_)
      | ((with_reducible show Mp _ _ _ _);(first|refine U6 h (λ_ h=>?_) | refine Yk h (λ_ h=>?_) | refine Amo h (λ_ h=>?_) | refine Qp h λ_ h=>?_))
      | ((with_reducible show Hm _ _ _);(first|refine Ql ?_|refine Qm ?_))
      | ((with_reducible show Aad _ _ _);refine Wn h λ_ h=>?_)
      | ((with_reducible show Z9 _ _ _ _);refine Wm h λ_ h=>?_)
      | ((with_reducible show Aaa _ _ _);refine Aaw h λ_ h=>?_)
      | ((with_reducible show Aab _ _ _ _);refine Al0 h λ_ h=>?_)
      | ((with_reducible show Aac _ _ _ _);refine Af9 h λ_ _ _ _ h=>?_)
      | ((with_reducible show Aae _ _);refine Hu h λh=>?_)
      | ((with_reducible show Aaf _ _ _ _ _);refine Alv h λ_ h=>?_)
      | ((with_reducible show Aag _ _ _ _);refine Alw h λ_ h=>?_))
    | (have h:=Option.some.inj h;subst h;exact rfl)
    | (cases h;(repeat refine⟨rfl,?_⟩);exact trivial)
    | (cases h;done)
):P:=h
section
variable {P:Program} {C:Cfg} {X:Nat->Bv->Hp->Prop} {U:Nat->Nat->Bv->Hp->Prop} {V:Nat->Bv->Hp->Prop} {n:Nat} {e:Bv} {H:Hp} {β:Type} {r:β} {P0 Q:Prop}
variable {t:Bool} {a b:Code} {K:Eff->Nat->Prop} {largs:List AV} {hs:List Bf} {m m':Option β} {S α:Type} {o:Option α} {ra:α->AV} {hs':α->List Bf} {G:α->Prop}
theorem Bn {c:Operand} (h:(bif t then m else m')=some r) (d:t=true->m=some r->wc P C a X U V n e H) (j:t=false->m'=some r->wc P C b X U V n e H) (k:Hd (wc P C (.cond c a b) X U V n e H)->P0:=by exact λq=>Z q.get) (s:ev e c = .val (.bool t):=by exact rfl):P0:=k ⟨Es h d j s⟩
theorem Cm {c:Operand} (h:(bif t then m else m')=some r) (d:t=false->m'=some r->wc P C b X U V n e H) (j:Hd (wc P C (.cond c a b) X U V n e H)->P0:=by exact λq=>Z q.get) (k:ev e c = .val (.bool t):=by exact rfl) (s:t=true->m=some r->wc P C a X U V n e H:=by intro _ h;exact Y):P0:=j ⟨Es h s d k⟩
theorem Bb {E:Type} {step:S->Option (S⊕E)} {s0:S} {J:E->Option β} (h:(An step s0).bind J=some r) (I:S->List (Nat×AV)) (hv:S->List (Nat×Bf)) (d:∀(s:S) (u:Nat->Value) (K:Nat->Bv->Hp->Prop) (o:S⊕E),step s=some o->(∀x,.inr x=o->J x=some r)->(∀j A k y,.inl j=o->Hn k (I j)->Ho y (Cq H (hv j)) n n->True->K A k y) -> wc P C b K U V n (Kt (Hh b) e u (I s)) (Cq H (hv s))) (B:Hd (wc P C (.loop b) X U V n e H)->P0:=by exact λq=>Z q.get) (hb:∀s,Ly n (I s) (hv s)=true:=by exact λ_=>rfl) (hs:Hn e (I s0):=by (repeat refine⟨rfl,?_⟩);exact trivial) (D:Ho H (Cq H (hv s0)) n n:=by (repeat refine⟨⟨rfl,rfl⟩,?_⟩);exact trivial):P0:=B ⟨Axj h I hv d hb hs D⟩
theorem Bk {m:α->Option β} {f:FuncId} {args:List AV} (h:o.bind m=some r) [i:OK o G] (k:∀v,m v=some r->K ⟨ra v,[],[]⟩ n) (d:Hd (Fk P n H f args K)->P0:=by exact λq=>Z q.get) (j:∀v,G v->A6 P f args (ra v):=by exact λ_ h=>h) (s:args.all AV.free=true:=by exact rfl):P0:=d ⟨Ss h k j s⟩
theorem Cj {l:List α} {f:α->AV} {ys:List AV} {i:Int} {m:α->Option β} {K:Nat->AV->Prop} (h:(Ah l i).bind m=some r) (k:∀(n:Nat) (x:α),i=n->l[n]? = some x->m x=some r->K n (f x)) (d:Hd (Tw ys i K)->P0:=by exact λq=>Z q.get) (j:ys=l.map f:=by first|exact rfl|exact Kg _|exact Kh _):P0:=d ⟨Alu j h k⟩
theorem Da {m:α->Option β} {f:FuncId} {args:List AV} (l:List Nat) (h:o.bind m=some r) [i:OK o G] (k:∀v,m v=some r->K ⟨ren (C1 n l) (ra v),Ed (C1 n l) 0 hs++Ci (C1 n l) l.length ((hs' v).length-l.length),Ed (C1 n l) 0 (hs' v)⟩ (n+((hs' v).length-l.length))) (d:Hd (Fk P n H f args K)->P0:=by exact λq=>Z q.get) (j:∀v,G v->Bm P f largs hs (ra v) (hs' v):=by exact λ_ h=>h) (s:largs.map (ren (C1 n l))=args:=by exact rfl) (ok:∀v,Jx n l largs hs (ra v) (hs' v)=true:=by exact λ_=>rfl) (u:Mo H (Ed (C1 n l) 0 hs):=by (repeat refine⟨rfl,?_⟩);exact trivial):P0:=d ⟨Yj l h k j s ok u⟩
theorem Cg {m:α->Option β} {f:FuncId} {args:List AV} (l:List Nat) (h:o.bind m=some r) [i:OK o G] (d:Hd (Fk P n H f args K)->P0:=by exact λq=>Z q.get) (j:∀v,G v->Bm P f largs hs (ra v) (hs' v):=by exact λ_ h=>h) (s:largs.map (ren (C1 n l))=args:=by exact rfl) (ok:∀v,Jx n l largs hs (ra v) (hs' v)=true:=by exact λ_=>rfl) (u:Mo H (Ed (C1 n l) 0 hs):=by (repeat refine⟨rfl,?_⟩);exact trivial) (k:∀v,m v=some r->K ⟨ren (C1 n l) (ra v),Ed (C1 n l) 0 hs++Ci (C1 n l) l.length ((hs' v).length-l.length),Ed (C1 n l) 0 (hs' v)⟩ (n+((hs' v).length-l.length)):=by
 intro _ h
 exact Y):P0:=d ⟨Yj l h k j s ok u⟩
theorem Dk {c:Code} {o:Option S} {m:S->Option β} (h:o.bind m=some r) (I:S->List (Nat×AV)) (hv:S->List (Nat×Bf)) (k:∀(s:S) (u:Nat->Value),m s=some r->X n (Kt (Hh c) e u (I s)) (Cq H (hv s))) (hb:∀s,Ly n (I s) (hv s)=true:=by exact λ_=>rfl) (q:∀x,o=some x->∀(K:Nat->Bv->Hp->Prop),(∀s A d j,s=x->Hn d (I s)->Ho j (Cq H (hv s)) n n->K A d j)->(∀y,y=x->m y=some r)->wc P C c K U V n e H:=by
 intro _ h _ _ _
 exact Y):wc P C c X U V n e H:=L9 h I hv q k hb
theorem ZR {id:Nat} {os:List Oper} (k:Q) (d:Hd (wc P C (.region id os.toArray false) X U V n e H)->P0:=by exact λq=>ZS q.get) (h:Hd Q->Fh (E8 P C.T C.an C.nl os.toArray os n e H [] λn e H _=>X n e H):=by exact λq=>ZO q.get):P0:=d ⟨Gl (h ⟨k⟩)⟩
end
set_option maxRecDepth 10000
theorem Axk {a0 r:List B0} (h:B4 16 [] a0=some r):A6 prog 88 [Au 2 E9 a0] (Au 2 E9 r):=by
 have h:((B4 16 [] a0).bind λo=>some o)=some r:=by rw[h];rfl
 refine pw {T:=Ct,an:=(λs=>bif Nat.beq s 5 then .own else .ask),nl:=(λs=>bif Nat.beq s 2 then [(0,2)] else [])} func88 ?_;refine A9 ?_;refine Gl ?_;refine ZO ?_;refine A9 (A9 ?_);refine Rk (λb:Bool=>b=true->a0 = []) (λb=>[(4,As b)]) (λ_=>[]) (λ_=>rfl) ?_ ?_
 .intro K j;refine Wq 0 ?_;intro v hv;obtain⟨p,c,rfl,hp⟩:=hv 2 (a0.map E9) rfl;refine Gl ?_;refine nx ?_;refine nx ?_;refine Ld ?_;refine j p.isNone _ _ _ (λe=>?_) ⟨rfl,trivial⟩ trivial;cases p with| none=>simpa using hp rfl| some _=>cases e
 .rintro b _ d;cases b with
  | true=>have d:=d rfl;subst d;have h:some ([]:List B0)=some r:=(by rw[<-h];rfl);exact Y
  | false=>refine Z ?_;exact Y
theorem Axl {a0:List B0} {r:List B0×List B0} (h:L0 16 a0=some r):Bm prog 88 [Au 2 E9 a0] [] (.arr 1 r.2.length 0 r.2.length) [.rows 102 2 (r.1.map E9),.rows 102 2 (r.2.map E9)]:=by
 have h:((B4 16 [] a0).bind λo=>some (([]:List B0),o))=some r:=h;refine aw {T:=Ct,an:=(λs=>bif Nat.beq s 5 then .own else bif Nat.beq s 2 then .own else .ask),nl:=(λ_=>[])} false func88 ?_;refine A9 ?_;refine Gl ?_;refine ZO ?_;refine A9 (A9 ?_);refine Rk (λb:Bool=>b=true->a0 = []) (λb=>[(4,As b)]) (λ_=>[]) (λ_=>rfl) ?_ ?_
 .intro K j;refine Wq 0 ?_;intro v hv;obtain⟨p,c,rfl,hp⟩:=hv 2 (a0.map E9) rfl;refine Gl ?_;refine nx ?_;refine nx ?_;refine Ld ?_;refine j p.isNone _ _ _ (λe=>?_) ⟨rfl,trivial⟩ ⟨⟨rfl,rfl⟩,trivial⟩;cases p with| none=>simpa using hp rfl| some _=>cases e
 .rintro b _ d;cases b with
  | true=>have d:=d rfl;subst d;have h:some (([]:List B0),([]:List B0))=some r:=(by rw[<-h];rfl);cases h;refine ZO ?_;exact Y
  | false=>refine Z ?_;refine ZO ?_;refine Jb h λ_ h=>?_;exact Y
theorem Axm {a0:List Bg} {r:List Bg×List Bg} (h:L0 40 a0=some r):Bm prog 42 [Au 3 Fo a0] [] (.arr 1 r.2.length 0 r.2.length) [.rows 95 3 (r.1.map Fo),.rows 95 3 (r.2.map Fo)]:=by
 have h:((B4 40 [] a0).bind λo=>some (([]:List Bg),o))=some r:=h;refine aw {T:=Ct,an:=(λs=>bif Nat.beq s 5 then .own else bif Nat.beq s 2 then .own else .ask),nl:=(λ_=>[])} false func42 ?_;refine A9 ?_;refine Gl ?_;refine ZO ?_;refine A9 (A9 ?_);refine Rk (λb:Bool=>b=true->a0 = []) (λb=>[(4,As b)]) (λ_=>[]) (λ_=>rfl) ?_ ?_
 .intro K j;refine Wq 0 ?_;intro v hv;obtain⟨p,c,rfl,hp⟩:=hv 3 (a0.map Fo) rfl;refine Gl ?_;refine nx ?_;refine nx ?_;refine Ld ?_;refine j p.isNone _ _ _ (λe=>?_) ⟨rfl,trivial⟩ ⟨⟨rfl,rfl⟩,trivial⟩;cases p with| none=>simpa using hp rfl| some _=>cases e
 .rintro b _ d;cases b with
  | true=>have d:=d rfl;subst d;have h:some (([]:List Bg),([]:List Bg))=some r:=(by rw[<-h];rfl);cases h;refine ZO ?_;exact Y
  | false=>refine Z ?_;refine ZO ?_;refine Jb h λ_ h=>?_;exact Y
theorem Axn {a0:List Bc} {r:List Bc×List Bc} (h:L0 40 a0=some r):Bm prog 48 [Au 3 Fd a0] [] (.arr 1 r.2.length 0 r.2.length) [.rows 62 3 (r.1.map Fd),.rows 62 3 (r.2.map Fd)]:=by
 have h:((B4 40 [] a0).bind λo=>some (([]:List Bc),o))=some r:=h;refine aw {T:=Ct,an:=(λs=>bif Nat.beq s 5 then .own else bif Nat.beq s 2 then .own else .ask),nl:=(λ_=>[])} false func48 ?_;refine A9 ?_;refine Gl ?_;refine ZO ?_;refine A9 (A9 ?_);refine Rk (λb:Bool=>b=true->a0 = []) (λb=>[(4,As b)]) (λ_=>[]) (λ_=>rfl) ?_ ?_
 .intro K j;refine Wq 0 ?_;intro v hv;obtain⟨p,c,rfl,hp⟩:=hv 3 (a0.map Fd) rfl;refine Gl ?_;refine nx ?_;refine nx ?_;refine Ld ?_;refine j p.isNone _ _ _ (λe=>?_) ⟨rfl,trivial⟩ ⟨⟨rfl,rfl⟩,trivial⟩;cases p with| none=>simpa using hp rfl| some _=>cases e
 .rintro b _ d;cases b with
  | true=>have d:=d rfl;subst d;have h:some (([]:List Bc),([]:List Bc))=some r:=(by rw[<-h];rfl);cases h;refine ZO ?_;exact Y
  | false=>refine Z ?_;refine ZO ?_;refine Jb h λ_ h=>?_;exact Y
theorem Axo {a0:List Ai} {r:List Ai×List Ai} (h:L0 32 a0=some r):Bm prog 261 [Au 2 E4 a0] [] (.arr 1 r.2.length 0 r.2.length) [.rows 93 2 (r.1.map E4),.rows 93 2 (r.2.map E4)]:=by
 have h:((B4 32 [] a0).bind λo=>some (([]:List Ai),o))=some r:=h;refine aw {T:=Ct,an:=(λs=>bif Nat.beq s 5 then .own else bif Nat.beq s 2 then .own else .ask),nl:=(λ_=>[])} false func261 ?_;refine A9 ?_;refine Gl ?_;refine ZO ?_;refine A9 (A9 ?_);refine Rk (λb:Bool=>b=true->a0 = []) (λb=>[(4,As b)]) (λ_=>[]) (λ_=>rfl) ?_ ?_
 .intro K j;refine Wq 0 ?_;intro v hv;obtain⟨p,c,rfl,hp⟩:=hv 2 (a0.map E4) rfl;refine Gl ?_;refine nx ?_;refine nx ?_;refine Ld ?_;refine j p.isNone _ _ _ (λe=>?_) ⟨rfl,trivial⟩ ⟨⟨rfl,rfl⟩,trivial⟩;cases p with| none=>simpa using hp rfl| some _=>cases e
 .rintro b _ d;cases b with
  | true=>have d:=d rfl;subst d;have h:some (([]:List Ai),([]:List Ai))=some r:=(by rw[<-h];rfl);cases h;refine ZO ?_;exact Y
  | false=>refine Z ?_;refine ZO ?_;refine Jb h λ_ h=>?_;exact Y
end Go.Ab
namespace Go.Ab
open Go Go.Proofs Go.Shelf Go.Proofs.Tryz
set_option maxRecDepth 100000
set_option linter.unusedVariables false
variable {F σ:Ax} {ι:Bx} {H:Hp} {w:World}
theorem Cv.up {w':World} {x:Nat} (h:Cv σ ι H F w x) (hk:∀(b:Nat) (o:Obj),w.heap[b]? = some o->w'.heap[b]? = some o):Cv σ ι H F w' x:=by
 unfold Cv at h ⊢;cases hx:H x with
 | none=>rw[hx]at h;exact h
 | dead=>trivial
 | cells E cs=>rw[hx]at h;obtain⟨b,C,h1,h2,h3,g,f⟩:=h;exact⟨b,C,h1,h2,h3,hk _ _ g,f⟩
 | rows E sz xs=>
  rw[hx]at h;obtain⟨h0,h1,h2⟩:=h;refine⟨h0,h1,?_⟩;rcases h2 with h2|⟨b,c,C,q,l,k,j,i⟩
  .exact .inl h2
  .exact .inr ⟨b,c,C,q,l,k,hk _ _ j,i⟩
 | map es=>rw[hx]at h;obtain⟨b,M,t,h1,h2,h3,g,f⟩:=h;exact⟨b,M,t,h1,h2,h3,hk _ _ g,f⟩
theorem St.growG {W:World} (s:St σ ι H F W w) (k:Nat) (os:Array Obj):St σ ι H F W (Sort.grow (Sort.ahead w k) os):=by
 have hk:∀(b:Nat) (o:Obj),w.heap[b]? = some o->(Sort.grow (Sort.ahead w k) os).heap[b]? = some o:=by intro b o h;have c:=(Array.getElem?_eq_some_iff.1 h).1;show (w.heap++os)[b]? = _;rw[Array.getElem?_append_left c];exact h
 exact⟨λb o h=>hk b o (s.sto b o h),λb o h=>⟨hk b o (s.fra b o h).1,(s.fra b o h).2⟩,λh=>(s.obj h).up hk,s.inj,s.os,s.tape,s.output,s.glo,Nat.le_trans s.drw (Nat.le_add_right _ _)⟩
theorem Axp {α:Type} [Inhabited α] (enc:α->Value) (w:World) (b:Nat) (d:Array α) (C:Array Value) (E:TypeId) (h:w.heap[b]? = some (.cells C E (0,0))):Sort.putRow enc w b 0 d=w.setRow b (Sort.putCells enc 0 d C):=by
 have c:(Sort.putRow enc w b 0 d).heap=(w.setRow b (Sort.putCells enc 0 d C)).heap:=by
  apply Array.ext_getElem?;intro i;simp only[Sort.putRow,Sort.mapBlock,World.setRow,Array.getElem?_modify];split
  .rename_i e;subst e;rw[h];simp[Sort.onCells]
  .rfl
 unfold Sort.putRow Sort.mapBlock World.setRow at c ⊢;simp only at c;rw[c]
end Go.Ab
namespace Go.Ab
open Go Go.Proofs Go.Shelf Go.Sort Go.Proofs.Tryz
set_option maxRecDepth 100000
set_option linter.unusedVariables false
variable {σ:Ax} {g:Nat} {α:Type} {v:Value} {b l r:List α} {eA:α->AV} {cmp:α->α->Option Int}
theorem Axq (h:Ew v=true):v.oneCell'=true:=by cases v <;> first|rfl|cases h
theorem Axr {ι:Bx} {H:Hp} {f:FuncId} (h:Conc σ ι H (.fn f []) v):v = .func (.func f) #[] #[]:=by cases h with| cc h=>cases h| fn _ _ vs b _=>have:vs = #[]:=Array.size_eq_zero_iff.1 (by simpa using b);rw[this]
def Amp (σ:Ax) (eA:α->AV) (sz:Nat) (S:List α) (x:α) (c:List Value):Prop := x∈S/\(eA x).cells.length=sz/\c.length=sz/\∀(j:Nat) (a:AV) (v:Value),(eA x).cells[j]? = some a->c[j]? = some v->CC σ a v/\Ew v=true
abbrev N0 {α:Type} (σ:Ax) (eA:α->AV) (sz:Nat) (S:List α):Type:={p:α×List Value // Amp σ eA sz S p.1 p.2}
theorem Axs {W w':World} (g:∀b o,W.heap[b]? = some o->σ b=some o) (s:St σ ι0 H0 (λ_=>none) W w'):∃q f,w'=grow (W.drewN q) f:=by
 have y:∀b o,W.heap[b]? = some o->w'.heap[b]? = some o:=λb o h=>s.sto b o (g b o h);have j:W.heap.size<=w'.heap.size:=by
  rcases Nat.eq_zero_or_pos W.heap.size with h|h
  .omega
  .have:=y (W.heap.size-1) _ (Array.getElem?_eq_getElem ω);have:=(Array.getElem?_eq_some_iff.1 this).1;omega
 refine⟨w'.drawn-W.drawn,w'.heap.extract W.heap.size w'.heap.size,?_⟩;have c:w'.heap=W.heap++w'.heap.extract W.heap.size w'.heap.size:=by
  apply Array.ext_getElem?;intro i;by_cases hi:i<W.heap.size
  .rw[Array.getElem?_append_left hi,Array.getElem?_eq_getElem hi];exact y i _ (Array.getElem?_eq_getElem hi)
  .rw[Array.getElem?_append_right ω];by_cases M:i<w'.heap.size
   .rw[Array.getElem?_eq_getElem M,Array.getElem?_eq_getElem ζ];simp only[Array.getElem_extract];congr 2;omega
   .rw[Array.getElem?_eq_none ω,Array.getElem?_eq_none ζ]
 have A:=s.os;have B:=s.tape;have D:=s.output;have k:=s.drw;cases w' with| mk I L u os d=>simp only at A B D k c;unfold grow World.drewN;simp only[World.mk.injEq];exact⟨c,B,ω,A,D⟩
theorem Ag1 {ρ:Ren} {E:TypeId} {sz f:Nat} (L:SlLaysF0.n6 prog ρ) (hf:ρ.f 6=f) (a7:V7 prog f) (aE:∀w,(isAgg (ρ.t 24)).run prog w = .ok true w) (zE:∀w,(Go.sizeOf (ρ.t 24)).run prog w = .ok sz w) (eg:∀args w,(callFunc g args).run prog w = .ok (.enter g args) w) (au:∀x y n,cmp x y=some n->A6 prog g [eA x,eA y] (O .i64 n)) (ay:∀x,∃cs,eA x = .agg cs) (h:∃o,Is cmp l o) (ai:l≠[]) : Mn prog f [.arr 0 l.length 0 l.length,.fn g []] [.rows E sz (l.map eA)] (λa b7=>∃o,Is cmp l o/\a = .tup []/\b7 = [.rows E sz (o.map eA)]):=by
 obtain⟨_,cf,a4,av,_⟩:=h;refine⟨a7,λσ F W w ι vs s ar=>?_⟩;obtain⟨v,v2,rfl,B,b4⟩:=Agz ar;obtain rfl:=Axr b4;have hh:hp [.rows E sz (l.map eA)] 0 = .rows E sz (l.map eA):=rfl;have M:=B.arr_inv hh ψ;have a3:=s.obj 0;unfold Cv at a3;rw[hh]at a3;obtain⟨R,ak,a3⟩:=a3;rw[length_map]at ak;rcases a3 with⟨_,ag⟩|⟨b,U,D,hb,g1,g2,g3,g4,g5,g6⟩
 .exact (ai (by simpa using ag)).elim
 rw[length_map]at g5;unfold Gz at M;rw[hb]at M;simp only[Nat.zero_mul,Nat.sub_zero]at M;obtain⟨ht,ab⟩:=M;subst ab;obtain⟨gg,q1,q2,q3⟩:=g6;have aa:∀(i:Nat) (x:α),l[i]? = some x->(l.map eA)[i]? = some (eA x):=λi x hx=>by rw[getElem?_map,hx];rfl
 have a1:∀(i:Nat) (hi:i<l.length),Amp σ eA sz l l[i] ((range sz).map (gg i)):=by intro i hi;have hx:l[i]? = some l[i]:=getElem?_eq_getElem hi;refine⟨getElem_mem hi,q1 i _ (aa i _ hx),ψ,λj a v ha B=>?_⟩;rw[getElem?_map,Option.map_eq_some_iff]at B;obtain⟨k,hk,rfl⟩:=B;have b9:k=j:=(by have:=(List.getElem?_eq_some_iff.1 hk).2;simpa using this.symm);subst b9;exact q2 i _ k a (aa i _ hx) ha
 have a5:0<l.length:=length_pos_iff.2 ai;let d:Array (N0 σ eA sz l):=Array.ofFn λi:Fin l.length=>⟨(l[i.1],(range sz).map (gg i.1)),a1 i.1 i.2⟩
 haveI:Inhabited (N0 σ eA sz l):=⟨⟨(l[0],(range sz).map (gg 0)),a1 0 a5⟩⟩;have A:d.size=l.length:=by simp[d]
 have bb:∀i (hi:i<l.length),d[i]! = ⟨(l[i],(range sz).map (gg i)),a1 i hi⟩:=λi hi=>by rw[getElem!_pos d i (by rw[A];exact hi)];simp[d]
 let a2:N0 σ eA sz l->List Value:=λp=>p.1.2
 have hk:∀x:N0 σ eA sz l,(a2 x).length=sz:=λx=>x.2.2.2.1;have h1:∀x:N0 σ eA sz l,∀v∈a2 x,v.oneCell'=true:=by intro x v B;obtain⟨j,hj⟩:=getElem?_of_mem B;have q:=(List.getElem?_eq_some_iff.1 hj).1;rw[hk x]at q;have ha:(eA x.1.1).cells[j]? = some ((eA x.1.1).cells[j]'(by rw[x.2.2.1];exact q)):=getElem?_eq_getElem _;exact Axq (x.2.2.2.2 j _ v ha hj).2
 let a8:N0 σ eA sz l->N0 σ eA sz l->Int:=λx y=>cf x.1.1 y.1.1
 have hO:SWO (ltOf a8):=by
  constructor
  .intro x;exact decide_eq_false (a4.irr x.1.1)
  .intro x y z X V;exact decide_eq_true (a4.trs _ _ _ (of_decide_eq_true X) (of_decide_eq_true V))
  .intro x y z X V;exact decide_eq_false (a4.ntr _ _ _ (of_decide_eq_false X) (of_decide_eq_false V))
 have hH:HoldsK a2 sz w b 0 d:=by
  intro t Y;rw[size_flatK,A]at Y;have ad:t / sz<l.length:=Nat.div_lt_of_lt_mul (by rw[Nat.mul_comm];exact Y);have ac:t % sz<sz:=Nat.mod_lt _ R;rw[get_flatK _ _ _ _ (by rw[A];exact Y),bb _ ad];have e:=q3 (t / sz) (t % sz) (by rw[length_map];exact ad) ac;rw[show t / sz*sz+t % sz=t by rw[Nat.mul_comm];exact Nat.div_add_mod t sz]at e;refine⟨?_,?_⟩
  .rw[Nat.zero_add,J9 g3,e];show some _=some (id _);congr 1;show gg _ _=((range sz).map (gg (t / sz)))[t % sz]!;rw[getElem!_pos _ _ (by simpa using ac)];simp
  .simp[World.frozen?,g3]
 have a9:b<w.heap.size:=(Array.getElem?_eq_some_iff.1 g3).1;have hC:CmpLays prog g #[] a2 sz a8 b 0 d.size w:=by
  intro m os dk hs x y;generalize b3:sortWorldK a2 sz w b 0 m dk os=N;have ao:∀b' o,σ b'=some o->N.heap[b']? = some o:=(by intro b' o ho;have ah:b≠b':=(by rintro rfl;rw[g1]at ho;cases ho);have e:=s.sto b' o ho;have q:=(Array.getElem?_eq_some_iff.1 e).1;rw[<-b3];show ((w.heap.modify b _)++os)[b']? = _;rw[Array.getElem?_append_left (by simpa using q),Array.getElem?_modify,if_neg ah];exact e);have ap:=av x.1.1 x.2.1 y.1.1 y.2.1;have hp:=au _ _ _ ap;have s1:St (λb=>N.heap[b]?) ι0 H0 (λ_=>none) N N:=⟨λ_ _ e=>e,(λ_ _ e=>by cases e),λ_=>rfl,(λ_ _ _ hl=>by cases hl),rfl,rfl,rfl,s.glo.mono ao,Nat.le_refl _⟩;have ax:∀z:N0 σ eA sz l,Conc (λb=>N.heap[b]?) ι0 H0 (eA z.1.1) (.agg (a2 z).toArray):=by
   intro z;obtain⟨cs,aq⟩:=ay z.1.1;have G:(eA z.1.1).cells=cs:=(by rw[aq];rfl);rw[aq];refine .cc (.agg _ _ ?_ λi c v hc B=>?_)
   .rw[<-G,z.2.2.1];simp[hk z]
   .rw[<-G]at hc;exact (z.2.2.2.2 i c v hc (by simpa using B)).1.mono ao
  refine (hp.2 (λb=>N.heap[b]?) (λ_=>none) N N _ s1 ⟨rfl,?_⟩).mono ?_
  .intro i a v ha B
   match i,ha,B with| 0,ha,B=>cases ha;cases B;exact ax x| 1,ha,B=>cases ha;cases B;exact ax y| n+2,ha,B=>simp at ha
  .rintro e w' ⟨v,σ',rfl,am,b5,hc⟩;refine⟨?_,?_⟩
   .cases hc with| cc h=>cases h;rfl
   .exact Axs (σ:=σ') (λb o ho=>am b o ho) b5
 have call:=AnyQ.slices_SortFunc L sz aE zE a2 hk h1 a8 hO g #[] b 0 U d w eg hC hH a9 (by rw[A];omega);rw[hf,A]at call;refine call.mono ?_;rintro e w' ⟨rfl,u,n,os,b8,b6,rfl⟩;obtain⟨p1,p2,p3⟩:=b8;have J:u.size=l.length:=by rw[p1,A]
 have I:∀(a:Array (N0 σ eA sz l)),a.size=l.length->(a.extract 0 l.length).toList=a.toList:=λa ha=>by rw[<-ha];simp
 rw[I u J,I d A]at p3;have aj:d.toList.map (λp=>p.1.1)=l:=by
  apply ext_getElem
  .simp[A]
  .intro i bg bf;simp[d]
 have Z:(u.toList.map λp=>p.1.1).Perm l:=by have:=p3.map λp:N0 σ eA sz l=>p.1.1;rwa [aj]at this
 have hS:(u.toList.map λp=>p.1.1).Pairwise λx y=>¬cf y x<0:=by rw[pairwise_iff_getElem];intro i j hi hj ba;simp only[length_map,Array.length_toList]at hi hj;have:=b6 i j (Nat.zero_le _) ba ω;rw[getElem!_pos u i hi,getElem!_pos u j hj]at this;have:=of_decide_eq_false this;simpa only[getElem_map,Array.getElem_toList] using this
 obtain⟨r,S⟩:∃r,u.toList.map (λp=>p.1.1)=r:=⟨_,rfl⟩;rw[S]at Z hS;have af:r.length=l.length:=Z.length_eq;have be:(flatK a2 sz u).size=l.length*sz:=by rw[size_flatK,J]
 have az:(Sort.putCells id 0 (flatK a2 sz u) D).size=U*sz:=by unfold Sort.putCells;rw[Array.size_mapIdx];exact g4
 have ae:∀(i:Nat) (x:α),r[i]? = some x->i<u.size/\(u[i]!).1.1=x:=by intro i x hx;rw[<-S,getElem?_map,Option.map_eq_some_iff]at hx;obtain⟨p,hp,rfl⟩:=hx;have q:=(List.getElem?_eq_some_iff.1 hp).1;simp only[Array.length_toList]at q;refine⟨q,?_⟩;rw[getElem!_pos u i q];have:=(List.getElem?_eq_some_iff.1 hp).2;simp only[Array.getElem_toList]at this;rw[this]
 obtain⟨s',le⟩:=s.setRows 0 E sz _ (r.map eA) hh b U hb (by simp[af]) (Sort.putCells id 0 (flatK a2 sz u) D) az (by
  refine⟨λi j=>(a2 u[i]!)[j]!,?_,?_,?_⟩
  .intro i x hx;rw[getElem?_map]at hx;obtain⟨z,hz,rfl⟩:=Option.map_eq_some_iff.1 hx;obtain⟨e1,e2⟩:=ae i z hz;rw[<-e2];exact (u[i]!).2.2.1
  .intro i x j c hx a6;rw[getElem?_map]at hx;obtain⟨z,hz,rfl⟩:=Option.map_eq_some_iff.1 hx;obtain⟨e1,e2⟩:=ae i z hz;rw[<-e2]at a6;have q:=(List.getElem?_eq_some_iff.1 a6).1;rw[(u[i]!).2.2.1,<-(u[i]!).2.2.2.1]at q;have hg:(u[i]!).1.2[j]? = some ((a2 u[i]!)[j]!):=(by rw[getElem?_eq_getElem q,getElem!_pos (a2 u[i]!) j q]);exact (u[i]!).2.2.2.2 j c _ a6 hg
  .intro i j hi hj;rw[length_map,af]at hi;have q:i*sz+j<l.length*sz:=(by have:=Nat.mul_le_mul_right sz (show i+1<=l.length from hi);rw[Nat.add_mul,Nat.one_mul]at this;omega);have hD:i*sz+j<D.size:=(by rw[g4];exact Nat.lt_of_lt_of_le q (Nat.mul_le_mul_right sz g5));unfold Sort.putCells;rw[Array.getElem?_mapIdx,Array.getElem?_eq_getElem hD];simp only[Option.map_some,Nat.zero_le,true_and,Nat.zero_add,be,q,if_true,Nat.sub_zero];congr 1;show id ((flatK a2 sz u)[i*sz+j]!)=_;rw[get_flatK _ _ _ _ (by rw[J];exact q)];have e1:(i*sz+j) / sz=i:=(by rw[Nat.mul_comm,Nat.mul_add_div R,Nat.div_eq_of_lt hj,Nat.add_zero]);have e2:(i*sz+j) % sz=j:=(by rw[Nat.mul_comm,Nat.mul_add_mod,Nat.mod_eq_of_lt hj]);rw[e1,e2];rfl);have eH:A4 (hp [.rows E sz (l.map eA)]) 0 (.rows E sz (r.map eA))=hp [.rows E sz (r.map eA)]:=by
  funext i
  match i with| 0=>rfl| i+1=>rfl
 rw[eH]at le s';have eW:sortWorldK a2 sz w b 0 n u os=Sort.grow (Sort.ahead (w.setRow b (Sort.putCells id 0 (flatK a2 sz u) D)) n) os:=by unfold sortWorldK putRowK;rw[Axp id (Sort.ahead w n) b (flatK a2 sz u) D E g3];rfl
 rw[eW];exact⟨_,_,_,σ,ι,⟨r,⟨cf,a4,av,Z,hS⟩,rfl,rfl⟩,rfl,le,s'.growG n os,.tup _ _ rfl (λi c v h1 _=>by cases h1)⟩
theorem Ol.only {o:List α} (h:Ol cmp l r) (h':Is cmp l o):o=r:=by
 obtain⟨cf,d,g,b,hs⟩:=h;obtain⟨u,B,f,hp,k⟩:=h';have e:∀x∈l,∀y∈l,u x y=cf x y:=λx hx y hy=>Option.some.inj ((f x hx y hy).symm.trans (g x hx y hy));have q:o.Pairwise λx y=>cf x y<0\/cf y x<0:=((hp.trans b.symm).pairwise_iff λ{x y} h=>h.symm).2 (hs.imp λh=>.inl h);have s:o.Pairwise λx y=>cf x y<0:=by
  rw[pairwise_iff_getElem]at q k ⊢;intro i j hi A c;rcases q i j hi A c with h|h
  .exact h
  .have:=k i j hi A c;rw[e _ (hp.subset (getElem_mem A)) _ (hp.subset (getElem_mem hi))]at this;exact (this h).elim
 exact Perm.eq_of_pairwise (le:=λx y=>cf x y<0) (λx y _ _ h1 h2=>(d.irr x (d.trs _ _ _ h1 h2)).elim) s hs (hp.trans b.symm)
theorem Ol.toU (h:Ol cmp l r):Is cmp l r:=by obtain⟨cf,d,c,b,hs⟩:=h;exact⟨cf,d,c,b,hs.imp λ{x y} h h2=>d.irr x (d.trs _ _ _ h h2)⟩
def Axt:Ren:={f:=λx=>match x with|6=>56|15=>112|14=>111|28=>184|29=>185|20=>176|21=>177|22=>178|23=>179|24=>180|25=>181|26=>182|27=>183|46=>239|47=>240|48=>241|49=>242|50=>243|57=>276|n=>n,t:=λx=>match x with|22=>28|24=>53|25=>128|3=>3|39=>191|0=>0|53=>74|55=>73|4=>4|46=>253|45=>252|50=>124|5=>5|9=>9|66=>316|70=>145|76=>351|77=>352|n=>n,g:=λn=>n}
theorem Axu:SlLaysF0.n6 prog Axt:=by
 constructor
 case f6=>exact Exists.intro "slices.SortFunc[[]amortcost/api.Term,amortcost/api.Term]" ⟨κ,κ⟩
 case f14=>exact Exists.intro "slices.pdqsortCmpFunc[amortcost/api.Term]" ⟨κ,κ⟩
 case f20=>exact Exists.intro "slices.insertionSortCmpFunc[amortcost/api.Term]" ⟨κ,κ⟩
 case f21=>exact Exists.intro "slices.heapSortCmpFunc[amortcost/api.Term]" ⟨κ,κ⟩
 case f22=>exact Exists.intro "slices.breakPatternsCmpFunc[amortcost/api.Term]" ⟨κ,κ⟩
 case f23=>exact Exists.intro "slices.choosePivotCmpFunc[amortcost/api.Term]" ⟨κ,κ⟩
 case f24=>exact Exists.intro "slices.reverseRangeCmpFunc[amortcost/api.Term]" ⟨κ,κ⟩
 case f25=>exact Exists.intro "slices.partialInsertionSortCmpFunc[amortcost/api.Term]" ⟨κ,κ⟩
 case f26=>exact Exists.intro "slices.partitionEqualCmpFunc[amortcost/api.Term]" ⟨κ,κ⟩
 case f27=>exact Exists.intro "slices.partitionCmpFunc[amortcost/api.Term]" ⟨κ,κ⟩
 case f46=>exact Exists.intro "slices.siftDownCmpFunc[amortcost/api.Term]" ⟨κ,κ⟩
 case f49=>exact Exists.intro "slices.medianAdjacentCmpFunc[amortcost/api.Term]" ⟨κ,κ⟩
 case f50=>exact Exists.intro "slices.medianCmpFunc[amortcost/api.Term]" ⟨κ,κ⟩
 case f57=>exact Exists.intro "slices.order2CmpFunc[amortcost/api.Term]" ⟨κ,κ⟩
 all_goals first|kernel_rfl | (intro w;kernel_rfl)
theorem Axv (k:∀args w,(callFunc g args).run prog w = .ok (.enter g args) w) (c:∀x y n,cmp x y=some n->A6 prog g [eA x,eA y] (O .i64 n)) (f:∀x,∃cs,eA x = .agg cs) (h:∃o,Is cmp b o) (j:b≠[]) : Mn prog 56 [.arr 0 b.length 0 b.length,.fn g []] [.rows 53 5 (b.map eA)] (λa i=>∃o,Is cmp b o/\a = .tup []/\i = [.rows 53 5 (o.map eA)]) := Ag1 Axu rfl ⟨_,func56,κ,κ⟩ (by intro w;kernel_rfl) (by intro w;kernel_rfl) k c f h j
theorem Axw (j:∀args w,(callFunc g args).run prog w = .ok (.enter g args) w) (b:∀x y n,cmp x y=some n->A6 prog g [eA x,eA y] (O .i64 n)) (c:∀x,∃cs,eA x = .agg cs) {f:List α} (h:Nn cmp f=some r) (i:f≠[]) : Bm prog 56 [.arr 0 f.length 0 f.length,.fn g []] [.rows 53 5 (f.map eA)] (.tup []) [.rows 53 5 (r.map eA)] := ((Axv j b c ⟨r,(T6 h).toU⟩ i).one λ_ _ ⟨o,d,k,q⟩=>⟨k,by rw[q,(T6 h).only d]⟩)
def Axx:Ren:={f:=λx=>match x with|6=>89|15=>112|14=>144|28=>184|29=>185|20=>205|21=>206|22=>207|23=>208|24=>209|25=>210|26=>211|27=>212|46=>253|47=>240|48=>241|49=>254|50=>255|57=>287|n=>n,t:=λx=>match x with|22=>58|24=>102|25=>158|3=>3|39=>191|0=>0|53=>74|55=>73|4=>4|46=>253|45=>252|50=>124|5=>5|9=>9|66=>316|70=>145|76=>351|77=>352|n=>n,g:=λn=>n}
theorem Axy:SlLaysF0.n6 prog Axx:=by
 constructor
 case f6=>exact Exists.intro "slices.SortFunc[[]amortcost/api.LinTerm,amortcost/api.LinTerm]" ⟨κ,κ⟩
 case f14=>exact Exists.intro "slices.pdqsortCmpFunc[amortcost/api.LinTerm]" ⟨κ,κ⟩
 case f20=>exact Exists.intro "slices.insertionSortCmpFunc[amortcost/api.LinTerm]" ⟨κ,κ⟩
 case f21=>exact Exists.intro "slices.heapSortCmpFunc[amortcost/api.LinTerm]" ⟨κ,κ⟩
 case f22=>exact Exists.intro "slices.breakPatternsCmpFunc[amortcost/api.LinTerm]" ⟨κ,κ⟩
 case f23=>exact Exists.intro "slices.choosePivotCmpFunc[amortcost/api.LinTerm]" ⟨κ,κ⟩
 case f24=>exact Exists.intro "slices.reverseRangeCmpFunc[amortcost/api.LinTerm]" ⟨κ,κ⟩
 case f25=>exact Exists.intro "slices.partialInsertionSortCmpFunc[amortcost/api.LinTerm]" ⟨κ,κ⟩
 case f26=>exact Exists.intro "slices.partitionEqualCmpFunc[amortcost/api.LinTerm]" ⟨κ,κ⟩
 case f27=>exact Exists.intro "slices.partitionCmpFunc[amortcost/api.LinTerm]" ⟨κ,κ⟩
 case f46=>exact Exists.intro "slices.siftDownCmpFunc[amortcost/api.LinTerm]" ⟨κ,κ⟩
 case f49=>exact Exists.intro "slices.medianAdjacentCmpFunc[amortcost/api.LinTerm]" ⟨κ,κ⟩
 case f50=>exact Exists.intro "slices.medianCmpFunc[amortcost/api.LinTerm]" ⟨κ,κ⟩
 case f57=>exact Exists.intro "slices.order2CmpFunc[amortcost/api.LinTerm]" ⟨κ,κ⟩
 all_goals first|kernel_rfl | (intro w;kernel_rfl)
theorem Amq (k:∀args w,(callFunc g args).run prog w = .ok (.enter g args) w) (c:∀x y n,cmp x y=some n->A6 prog g [eA x,eA y] (O .i64 n)) (f:∀x,∃cs,eA x = .agg cs) (h:∃o,Is cmp b o) (j:b≠[]) : Mn prog 89 [.arr 0 b.length 0 b.length,.fn g []] [.rows 102 2 (b.map eA)] (λa i=>∃o,Is cmp b o/\a = .tup []/\i = [.rows 102 2 (o.map eA)]) := Ag1 Axy rfl ⟨_,func89,κ,κ⟩ (by intro w;kernel_rfl) (by intro w;kernel_rfl) k c f h j
theorem Axz (j:∀args w,(callFunc g args).run prog w = .ok (.enter g args) w) (b:∀x y n,cmp x y=some n->A6 prog g [eA x,eA y] (O .i64 n)) (c:∀x,∃cs,eA x = .agg cs) {f:List α} (h:Nn cmp f=some r) (i:f≠[]) : Bm prog 89 [.arr 0 f.length 0 f.length,.fn g []] [.rows 102 2 (f.map eA)] (.tup []) [.rows 102 2 (r.map eA)] := ((Amq j b c ⟨r,(T6 h).toU⟩ i).one λ_ _ ⟨o,d,k,q⟩=>⟨k,by rw[q,(T6 h).only d]⟩)
def Ax0:Ren:={f:=λx=>match x with|6=>227|15=>112|14=>265|28=>184|29=>185|20=>289|21=>290|22=>291|23=>292|24=>293|25=>294|26=>295|27=>296|46=>301|47=>240|48=>241|49=>302|50=>303|57=>306|n=>n,t:=λx=>match x with|22=>109|24=>113|25=>306|3=>3|39=>191|0=>0|53=>74|55=>73|4=>4|46=>253|45=>252|50=>124|5=>5|9=>9|66=>316|70=>145|76=>351|77=>352|n=>n,g:=λn=>n}
theorem Ax1:SlLaysF0.n6 prog Ax0:=by
 constructor
 case f6=>exact Exists.intro "slices.SortFunc[[]amortcost/api.Weighted,amortcost/api.Weighted]" ⟨κ,κ⟩
 case f14=>exact Exists.intro "slices.pdqsortCmpFunc[amortcost/api.Weighted]" ⟨κ,κ⟩
 case f20=>exact Exists.intro "slices.insertionSortCmpFunc[amortcost/api.Weighted]" ⟨κ,κ⟩
 case f21=>exact Exists.intro "slices.heapSortCmpFunc[amortcost/api.Weighted]" ⟨κ,κ⟩
 case f22=>exact Exists.intro "slices.breakPatternsCmpFunc[amortcost/api.Weighted]" ⟨κ,κ⟩
 case f23=>exact Exists.intro "slices.choosePivotCmpFunc[amortcost/api.Weighted]" ⟨κ,κ⟩
 case f24=>exact Exists.intro "slices.reverseRangeCmpFunc[amortcost/api.Weighted]" ⟨κ,κ⟩
 case f25=>exact Exists.intro "slices.partialInsertionSortCmpFunc[amortcost/api.Weighted]" ⟨κ,κ⟩
 case f26=>exact Exists.intro "slices.partitionEqualCmpFunc[amortcost/api.Weighted]" ⟨κ,κ⟩
 case f27=>exact Exists.intro "slices.partitionCmpFunc[amortcost/api.Weighted]" ⟨κ,κ⟩
 case f46=>exact Exists.intro "slices.siftDownCmpFunc[amortcost/api.Weighted]" ⟨κ,κ⟩
 case f49=>exact Exists.intro "slices.medianAdjacentCmpFunc[amortcost/api.Weighted]" ⟨κ,κ⟩
 case f50=>exact Exists.intro "slices.medianCmpFunc[amortcost/api.Weighted]" ⟨κ,κ⟩
 case f57=>exact Exists.intro "slices.order2CmpFunc[amortcost/api.Weighted]" ⟨κ,κ⟩
 all_goals first|kernel_rfl | (intro w;kernel_rfl)
theorem Ax2 (k:∀args w,(callFunc g args).run prog w = .ok (.enter g args) w) (c:∀x y n,cmp x y=some n->A6 prog g [eA x,eA y] (O .i64 n)) (f:∀x,∃cs,eA x = .agg cs) (h:∃o,Is cmp b o) (j:b≠[]) : Mn prog 227 [.arr 0 b.length 0 b.length,.fn g []] [.rows 113 5 (b.map eA)] (λa i=>∃o,Is cmp b o/\a = .tup []/\i = [.rows 113 5 (o.map eA)]) := Ag1 Ax1 rfl ⟨_,func227,κ,κ⟩ (by intro w;kernel_rfl) (by intro w;kernel_rfl) k c f h j
theorem Ax3 (j:∀args w,(callFunc g args).run prog w = .ok (.enter g args) w) (b:∀x y n,cmp x y=some n->A6 prog g [eA x,eA y] (O .i64 n)) (c:∀x,∃cs,eA x = .agg cs) {f:List α} (h:Nn cmp f=some r) (i:f≠[]) : Bm prog 227 [.arr 0 f.length 0 f.length,.fn g []] [.rows 113 5 (f.map eA)] (.tup []) [.rows 113 5 (r.map eA)] := ((Ax2 j b c ⟨r,(T6 h).toU⟩ i).one λ_ _ ⟨o,d,k,q⟩=>⟨k,by rw[q,(T6 h).only d]⟩)
end Go.Ab
namespace Go.Ab
open Go Go.Proofs Go.Shelf Go.Proofs.Tryz
set_option maxRecDepth 100000
set_option linter.unusedVariables false
variable {n:Int} {α:Type} {r:List α} {eA:α->AV}
theorem Z7 {σ:Ax} {ι:Bx} {H:Hp} {u v:Value} (h:Conc σ ι H (.val u) v):v=u:=by cases h with| cc h=>cases h;rfl
theorem Abz {ρ:Ren} {E:TypeId} {sz f:Nat} (L:Lays8.n4 prog ρ) (hf:ρ.f 4=f) (g:V7 prog f) (l:TypeInfo) (z:Value) (G:prog.info? (ρ.t 25)=some l) (D:l.zero=some z) (V:ρ.t 25=E) (S:l.size=sz) (B:z.cells.size=sz) (q:0<sz) (I:l.bytes<=1000) (h:L2 n=some r):Bm prog f [.val (.slice none 0 0),O .i64 n] [] (.arr 0 r.length 0 r.length) [.rows E sz (r.map eA)]:=by
 have U:r = []/\0<=n/\n<=1000000:=by
  unfold L2 at h;by_cases h1:0<=n
  .by_cases h2:n<=1000000
   .rw[decide_eq_true h1,decide_eq_true h2]at h;have h:some ([]:List α)=some r:=h;cases h;exact⟨rfl,h1,h2⟩
   .rw[decide_eq_false h2,Bool.and_false]at h;cases h
  .rw[decide_eq_false h1,Bool.false_and]at h;cases h
 obtain⟨rfl,n0,Z⟩:=U;obtain⟨m,rfl⟩:∃m:Nat,n=m:=⟨n.toNat,ω⟩;refine⟨g,λσ F W w ι vs s y=>?_⟩;obtain⟨v,u,rfl,R,hu⟩:=Agz y;obtain rfl:=Z7 R;obtain rfl:=Z7 hu;have M:hp [] 0 = .none:=rfl;have N:A4 (hp []) 0 (.rows E sz [])=hp [.rows E sz []]:=by
  funext i
  match i with| 0=>rfl| i+1=>rfl
 by_cases h0:m=0
 .subst h0;have call:=Any8.slices_Grow_room L none 0 0 0 w (Nat.le_refl _) δ δ δ;rw[hf]at call;refine call.mono ?_;rintro e w' ⟨rfl,rfl⟩;obtain⟨s',le⟩:=s.newNil 0 M E sz q;rw[N]at s' le;refine⟨_,σ,_,rfl,le,s',.arr 0 0 0 0 _ (by intro e;cases e) (λY A xs e=>?_) rfl⟩;cases e;refine⟨Nat.le_refl _,λ_=>?_⟩;unfold Gz;rw[Cd];exact⟨rfl,rfl,rfl⟩
 .have hb:(0+m)*l.bytes<=140737488355328:=(by have:=Nat.mul_le_mul (show 0+m<=1000000 by omega) I;omega);have call:=Any8.slices_Grow_grow L l z G D ω none 0 0 m [] w (Nat.le_refl _) ω hb ω ψ (λ_=>rfl) (λa h=>by cases h);rw[hf,V]at call;refine call.mono ?_;rintro e w' ⟨rfl,rfl⟩;have a1:=Z0 w (0+m) 0 E;generalize grownCap w (0+m) 0 E=d at a1;have b:∀k,(Builtin.zeroCells z.cells k).size=k*sz:=(by intro k;simp[Builtin.zeroCells,B]);generalize X:(([]:List Value).toArray++Builtin.zeroCells z.cells (0+m-0)++Builtin.zeroCells z.cells (d-(0+m)))=C;have J:C.size=d*sz:=(by rw[<-X,Array.size_append,Array.size_append,b,b];simp only[size_toArray,length_nil,Nat.zero_add,Nat.sub_zero,<-Nat.add_mul];congr 1;omega);obtain⟨s',le⟩:=(s.drew (w.drawn+1)).newRows 0 E sz [] d C (.inl M) q ψ ψ J ⟨λ_ _=>.bool false,(by intro i x h;simp at h),(by intro i x j c h;simp at h),(by intro i j h;simp at h)⟩;rw[N]at s' le;refine⟨_,σ,_,rfl,le,s',.arr 0 0 0 0 _ (by intro e;cases e) (λY A xs e=>?_) rfl⟩;cases e;refine⟨Nat.le_refl _,λ_=>?_⟩;unfold Gz;rw[Cd];exact⟨Nat.zero_le _,ψ⟩
def Ax4:Ren:={f:=λx=>match x with|4=>230|n=>n,t:=λx=>match x with|22=>48|25=>95|3=>3|4=>4|9=>9|20=>20|0=>0|n=>n,g:=λn=>n}
theorem Ax5:Lays8.n4 prog Ax4:=by
 constructor
 case f4=>exact Exists.intro "slices.Grow[[]amortcost/api.Factor,amortcost/api.Factor]" ⟨κ,κ⟩
 all_goals first|kernel_rfl | (intro w;kernel_rfl)
theorem Ax6 (h:L2 n=some r):Bm prog 230 [.val (.slice none 0 0),O .i64 n] [] (.arr 0 r.length 0 r.length) [.rows 95 3 (r.map eA)] := Abz Ax5 rfl ⟨_,func230,κ,κ⟩ t95 (t95.zero.getD .nilFunc) κ κ rfl κ κ δ (of_decide_eq_true κ) h
def Ax7:Ren:={f:=λx=>match x with|4=>231|n=>n,t:=λx=>match x with|22=>49|25=>62|3=>3|4=>4|9=>9|20=>20|0=>0|n=>n,g:=λn=>n}
theorem Ax8:Lays8.n4 prog Ax7:=by
 constructor
 case f4=>exact Exists.intro "slices.Grow[[]amortcost/api.Atom,amortcost/api.Atom]" ⟨κ,κ⟩
 all_goals first|kernel_rfl | (intro w;kernel_rfl)
theorem Ax9 (h:L2 n=some r):Bm prog 231 [.val (.slice none 0 0),O .i64 n] [] (.arr 0 r.length 0 r.length) [.rows 62 3 (r.map eA)] := Abz Ax8 rfl ⟨_,func231,κ,κ⟩ t62 (t62.zero.getD .nilFunc) κ κ rfl κ κ δ (of_decide_eq_true κ) h
def Aya:Ren:={f:=λx=>match x with|4=>266|n=>n,t:=λx=>match x with|22=>109|25=>113|3=>3|4=>4|9=>9|20=>20|0=>0|n=>n,g:=λn=>n}
theorem Ayb:Lays8.n4 prog Aya:=by
 constructor
 case f4=>exact Exists.intro "slices.Grow[[]amortcost/api.Weighted,amortcost/api.Weighted]" ⟨κ,κ⟩
 all_goals first|kernel_rfl | (intro w;kernel_rfl)
theorem Ayc (h:L2 n=some r):Bm prog 266 [.val (.slice none 0 0),O .i64 n] [] (.arr 0 r.length 0 r.length) [.rows 113 5 (r.map eA)] := Abz Ayb rfl ⟨_,func266,κ,κ⟩ t113 (t113.zero.getD .nilFunc) κ κ rfl κ κ δ (of_decide_eq_true κ) h
def Ayd:Ren:={f:=λx=>match x with|4=>288|n=>n,t:=λx=>match x with|22=>91|25=>93|3=>3|4=>4|9=>9|20=>20|0=>0|n=>n,g:=λn=>n}
theorem Aye:Lays8.n4 prog Ayd:=by
 constructor
 case f4=>exact Exists.intro "slices.Grow[[]amortcost/api.Index,amortcost/api.Index]" ⟨κ,κ⟩
 all_goals first|kernel_rfl | (intro w;kernel_rfl)
theorem Ayf (h:L2 n=some r):Bm prog 288 [.val (.slice none 0 0),O .i64 n] [] (.arr 0 r.length 0 r.length) [.rows 93 2 (r.map eA)] := Abz Aye rfl ⟨_,func288,κ,κ⟩ t93 (t93.zero.getD .nilFunc) κ κ rfl κ κ δ (of_decide_eq_true κ) h
end Go.Ab
