/- Contracts of strings.Builder and strconv.Itoa. -/
import Derived.Test.YtdjgjhnhlpiccaaGreatDoorMsTy
import Derived.Test.YtdjgjhnhlpiccaaGreatDoorMsHandB
import Derived.Shelf.Strconv.Itoa4
import Derived.KernelRfl
import Derived.Shelf.Sort.Plain
import Derived.Shelf.SlSortCmp.WholeK
import Derived.Shelf.Spec.SlicesGrow
import Derived.Laws.Externs
open List
namespace Go.Ab
open Go Go.Proofs Go.Shelf Go.Proofs.Tryz
set_option maxRecDepth 100000
variable {F σ:A7} {p x:AV} {vs:Array Value} {r:ByteArray} {ι:Ca} {H:Hp} {a0:Int} {l:List Int} {W w:World}
def Aqe:Ren:={f:=λx=>match x with|171=>170|243=>237|246=>286|283=>311|284=>312|285=>313|286=>314|129=>190|317=>325|318=>326|319=>327|320=>328|337=>332|338=>333|173=>239|n=>n,t:=λx=>match x with|3=>3|9=>9|2=>2|4=>4|171=>390|0=>0|53=>131|37=>243|5=>5|173=>392|212=>404|51=>132|20=>20|213=>405|46=>150|232=>409|233=>410|n=>n,g:=λx=>match x with|17=>0|18=>1|19=>2|n=>n}
theorem Aqf:LaysM.n171 prog Aqe:=by constructor;constructor;all_goals first|kernel_rfl | (intro w;kernel_rfl)
theorem St.grown (s:St σ ι0 H0 F W w) (k:Nat) (os:Array Obj):St σ ι0 H0 F W (Sort.grow (w.drewN k) os):=by
 have hk:∀(b:Nat) (o:Obj),w.heap[b]? = some o->(Sort.grow (w.drewN k) os).heap[b]? = some o:=by intro b o h;have c:=(Array.getElem?_eq_some_iff.1 h).1;show (w.heap++os)[b]? = _;rw[Array.getElem?_append_left c];exact h
 exact⟨λb o h=>hk b o (s.sto b o h),λb o h=>⟨hk b o (s.fra b o h).1,(s.fra b o h).2⟩,λ_=>rfl,(λ_ _ _ f=>by cases f),s.os,s.tape,s.output,s.glo,Nat.le_trans s.drw (Nat.le_add_right _ _)⟩
theorem Aqg (s:St σ ι H F W w):Lib.TabIs prog w "internal/strconv.uint64pow10" .u64 Lib.pow10Tab:=by obtain⟨E,fr,e⟩:=s.glo;have h:=s.sto _ _ e;have g:prog.globalNamed "internal/strconv.uint64pow10" = some 0:=Aqf.m17;unfold Lib.TabIs World.var?;rw[g];simp only[Option.bind_some,h]
theorem Uw (h:Lz σ ι H [x] vs):∃v,vs = #[v]/\Conc σ ι H x v:=by
 obtain⟨h1,h2⟩:=h;have h1:vs.size=1:=h1;refine⟨vs[0],?_,h2 0 x _ rfl (by simp[h1])⟩;apply Array.ext
 .simp[h1]
 .intro i hi b;have:i=0:=ω;subst this;rfl
theorem A2u (h:Px a0=some r):A8 prog 170 [O .i64 a0] (Gv r):=by
 unfold Px at h;split at h
 .rename_i hc;cases h;refine⟨⟨_,func170,κ,κ⟩,λσ F W w vs s b=>?_⟩;obtain⟨v,rfl,hv⟩:=Uw b;have hv:=hv.val_inv;subst hv;have:=Any.strconv_Itoa Aqf a0 hc.1 hc.2 w (Aqg s);refine this.mono ?_;rintro e w' ⟨rfl,k,os,rfl⟩;exact⟨_,σ,rfl,A7.le_refl σ,s.grown k os,.of_val _⟩
 .cases h
theorem A2v:LaysM.n173 prog Aqe:=by constructor;constructor;all_goals first|kernel_rfl | (intro w;kernel_rfl)
theorem Aks {y:AV} (h:Lz σ ι H [x,y] vs):∃v u,vs = #[v,u]/\Conc σ ι H x v/\Conc σ ι H y u:=by
 obtain⟨h1,h2⟩:=h;have h1:vs.size=2:=h1;refine⟨vs[0],vs[1],?_,h2 0 x _ rfl (by simp[h1]),h2 1 y _ rfl (by simp[h1])⟩;apply Array.ext
 .simp[h1]
 .intro i hi b;rcases (ω:i=0\/i=1) with h|h
  .subst h;rfl
  .subst h;rfl
theorem A2w {a1:Int} (h:Aeb a0 a1=some r):A8 prog 239 [O .i64 a0,O .i64 a1] (Gv r):=by
 unfold Aeb at h;cases hb:a1==10 with
 | false=>rw[hb]at h;cases h
 | true=>
  rw[hb]at h;have hb:=eq_of_beq hb;subst hb;have h:Px a0=some r:=h;unfold Px at h;split at h
  .rename_i hc;cases h;refine⟨⟨_,func239,κ,κ⟩,λσ F W w vs s b=>?_⟩;obtain⟨v,u,rfl,hv,hu⟩:=Aks b;have hv:=hv.val_inv;have hu:=hu.val_inv;subst hv;subst hu;have:=Any.strconv_FormatInt_10 A2v a0 hc.1 hc.2 w (Aqg s);refine this.mono ?_;rintro e w' ⟨rfl,k,os,rfl⟩;exact⟨_,σ,rfl,A7.le_refl σ,s.grown k os,.of_val _⟩
  .cases h
theorem Aax (o:Bq) (os:List Bq):hp (o::os) 0=o:=rfl
theorem A2x (x:AV) (rest:List Bq):Bo prog 222 [.loc 0 0] (.cells 245 [.loc 0 0,x]::rest) (.tup []) (.cells 245 [.loc 0 0,x]::rest):=by
 refine⟨⟨_,func222,κ,κ⟩,λσ F W w ι vs s f=>?_⟩;obtain⟨v,rfl,hv⟩:=Uw f;obtain⟨b,hb,hv⟩:=hv.loc_inv;subst hv;have k:=s.obj 0;unfold Cr at k;rw[Aax]at k;obtain⟨z,C,u,_,_,h3,q,y⟩:=k;rw[hb]at u;cases u;have q:C.size=2:=q;have g:C[0]? = some C[0]:=by simp[q]
 have l:=y 0 (.loc 0 0) C[0] rfl g;obtain⟨b2,h,j⟩:=l.loc_inv;rw[hb]at h;cases h;have cell:w.cell? ⟨b,0,none⟩=some (.pointer (some ⟨b,0,none⟩)):=by rw[Ki h3,g,j]
 refine (Tryz.check_used b w cell).mono ?_;rintro e w' ⟨rfl,rfl⟩;exact⟨_,σ,ι,rfl,Le.refl _ _ _,s,.tup _ _ rfl (λi c v h1 _=>by cases h1)⟩
theorem A2y (x:AV) (rest:List Bq):Bo prog 222 [.loc 0 0] (.cells 245 [.val (.pointer none),x]::rest) (.tup []) (.cells 245 [.loc 0 0,x]::rest):=by
 refine⟨⟨_,func222,κ,κ⟩,λσ F W w ι vs s j=>?_⟩;obtain⟨v,rfl,hv⟩:=Uw j;obtain⟨b,hb,hv⟩:=hv.loc_inv;subst hv;have q:=s.obj 0;unfold Cr at q;rw[Aax]at q;obtain⟨B,C,z,_,_,h3,g,y⟩:=q;rw[hb]at z;cases z;have g:C.size=2:=g;have k:C[0]? = some C[0]:=by simp[g]
 have l:=(y 0 (.val (.pointer none)) C[0] rfl k).val_inv;have cell:w.cell? ⟨b,0,none⟩=some (.pointer none):=by rw[Ki h3,k,l]
 refine (Tryz.check_fresh b w cell (by simp[World.shape?,h3,g]) (by simp[World.frozen?,h3])).mono ?_;rintro e w' ⟨rfl,rfl⟩;obtain⟨s',le⟩:=s.setBox 0 245 [.val (.pointer none),x] [.loc 0 0,x] rfl b hb #[.pointer (some ⟨b,0,none⟩),C[1]] rfl (by
  intro i c v h1 h2
  match i with| 0=>simp at h1 h2;subst h1;subst h2;exact .loc 0 0 b hb| 1=>simp at h1 h2;subst h1;subst h2;exact y 1 x _ rfl (by simp[g])| i+2=>simp at h1)
 have A:Ay (hp (.cells 245 [.val (.pointer none),x]::rest)) 0 (.cells 245 [.loc 0 0,x])=hp (.cells 245 [.loc 0 0,x]::rest):=by funext i;cases i with| zero=>rfl| succ i=>rfl
 have eW:w.setCell ⟨b,0,none⟩ (.pointer (some ⟨b,0,none⟩))=w.setRow b #[.pointer (some ⟨b,0,none⟩),C[1]]:=by
  have h:C.setIfInBounds 0 (.pointer (some ⟨b,0,none⟩)) = #[.pointer (some ⟨b,0,none⟩),C[1]]:=by
   apply Array.ext
   .simp[g]
   .intro i hi u
    match i with| 0=>simp| 1=>rw[Array.getElem_setIfInBounds_ne _ δ];rfl| i+2=>simp at u;omega
  have f:(w.setCell ⟨b,0,none⟩ (.pointer (some ⟨b,0,none⟩))).heap=(w.setRow b #[.pointer (some ⟨b,0,none⟩),C[1]]).heap:=by
   apply Array.ext_getElem?;intro i;simp only[World.setCell,World.setRow,Array.getElem?_modify];split
   .rename_i e;subst e;rw[h3];simp[h]
   .rfl
  unfold World.setCell World.setRow at f ⊢;simp only at f;rw[f]
 rw[A]at s' le;rw[eW];exact⟨_,σ,ι,rfl,le,s',.tup _ _ rfl (λi c v h1 _=>by cases h1)⟩
theorem A2z (h:∀x∈l,0<=x/\x<256) {j:Nat} {x:UInt8} (hx:(Fm l)[j]? = some x):l[j]? = some (x.toNat:Int):=by simp only[Fm,getElem?_map,Option.map_eq_some_iff]at hx;obtain⟨y,hy,rfl⟩:=hx;have b:=h y (mem_of_getElem? hy);rw[hy];congr 1;have:y.toNat<256:=ω;simp only[UInt8.toNat_ofNat'];omega
theorem St.kill (s:St σ ι H F W w) (h:Nat):St σ ι (Ay H h .dead) F W w/\Le σ ι H σ ι (Ay H h .dead):=by
 have le:Le σ ι H σ ι (Ay H h .dead):=by have:=Le.upd (ι:=ι) (H:=H) (A7.le_refl σ) h (ι h) .dead ⟨λ_ e=>e,(λ_ e=>by cases e),(λ_ k j i e=>by cases e)⟩;rwa [Jm]at this
 obtain⟨f1,f2⟩:=s.fresh;refine⟨s.touch h w.heap.size (λ_ _=>rfl) (λx e=>Cq _ _ e) le (λ_ _=>rfl) (λ_ _=>rfl) (λo g=>by rw[f1]at g;cases g) ?_ f2 ?_ ?_ rfl rfl rfl,le⟩
 .intro x _ c f;have:=(s.block c f).1;omega
 .intro b c;rw[Ce]at c;cases c
 .unfold Cr;rw[Ce];trivial
theorem St.fbox (s0:St σ ι H F W w) {T:TypeId} {s:ByteArray} {b:Nat} {C:Array Value} (hh:H 0 = .cells T [p,x]) (hb:ι 0 = .box b) (h3:w.heap[b]? = some (.cells C T (0,0))) (hc:∀v,C[1]? = some v->CC σ (.fb s) v):St σ ι (Ay H 0 (.cells T [p,.fb s])) F W w/\Le σ ι H σ ι (Ay H 0 (.cells T [p,.fb s])):=by
 have f:=s0.obj 0;unfold Cr at f;rw[hh]at f;obtain⟨q,u,j,g1,g2,g3,g4,g5⟩:=f;rw[hb]at j;cases j;rw[h3]at g3;cases g3;have le:Le σ ι H σ ι (Ay H 0 (.cells T [p,.fb s])):=by have:=Le.upd (ι:=ι) (H:=H) (A7.le_refl σ) 0 (ι 0) (.cells T [p,.fb s]) (by rw[hh];exact⟨λ_ e=>e,(λ_ e=>by cases e),(λ_ _ _ _ e=>by cases e)⟩);rwa [Jm]at this
 refine⟨s0.touch 0 b (λ_ _=>rfl) (λx e=>Cq _ _ e) le (λx e=>rfl) (λ_ _=>rfl) (λo e=>by rw[g1]at e;cases e) ?_ g2 ?_ ?_ rfl rfl rfl,le⟩
 .intro x e k g;exact e (s0.inj x 0 b k (by rw[hh];rfl) g (by rw[hb];rfl))
 .intro l _ h;exact .inr ⟨by rw[hh];rfl,h⟩
 .unfold Cr;rw[Ce];refine⟨b,C,hb,g1,g2,h3,by simpa using g4,λi c v x y=>?_⟩
  match i with| 0=>exact (g5 0 c v x y).mono le| 1=>cases x;exact .cc (hc v y)| i+2=>cases x
theorem A20:Bo prog 166 [.loc 0 0] [.cells 245 [p,.arr 1 0 0 0],.rows 5 1 []] (Gv .empty) [.cells 245 [p,.fb .empty],.dead]:=by
 refine⟨⟨_,func166,κ,κ⟩,λσ F W w ι vs s y=>?_⟩;obtain⟨v,rfl,hv⟩:=Uw y;obtain⟨b,hb,hv⟩:=hv.loc_inv;subst hv;have L:=s.obj 0;unfold Cr at L;rw[Aax]at L;obtain⟨b',C,X,_,_,h3,A,h5⟩:=L;rw[hb]at X;cases X;have A:C.size=2:=A;have Z:C = #[C[0],C[1]]:=by
  apply Array.ext
  .simp[A]
  .intro i hi M
   match i with| 0=>rfl| 1=>rfl| i+2=>simp at M;omega
 have N:=h5 1 (.arr 1 0 0 0) C[1] rfl (by simp[A]);have x:hp [Bq.cells 245 [p,.arr 1 0 0 0],.rows 5 1 []] 1 = .rows 5 1 []:=rfl;have c:=N.arr_inv x ψ;have hor:=s.obj 1;unfold Cr at hor;rw[x]at hor;obtain⟨_,U,hor⟩:=hor;have eH:Ay (Ay (hp [Bq.cells 245 [p,.arr 1 0 0 0],.rows 5 1 []]) 1 .dead) 0 (.cells 245 [p,.fb .empty])=hp [Bq.cells 245 [p,.fb .empty],.dead]:=by
  funext i
  match i with| 0=>rfl| 1=>rfl| i+2=>rfl
 have go:∀(a q:Option Addr) (cap:Nat) (z:A7) (j:World),C[1] = .slice a 0 cap->j.heap[b]? = w.heap[b]?->(Builtin.unsafeSliceData_ #[243] 308 #[.slice a 0 cap]).run prog w.drew = .ok (.pointer q) j ->
   Le σ ι (hp [Bq.cells 245 [p,.arr 1 0 0 0],.rows 5 1 []]) z ι (hp [Bq.cells 245 [p,.arr 1 0 0 0],.rows 5 1 []])->St z ι (hp [Bq.cells 245 [p,.arr 1 0 0 0],.rows 5 1 []]) F W j -> Calls prog 166 #[.pointer (some ⟨b,0,none⟩)] w λe w'=>∃v B E,e = .returned v/\Le σ ι (hp [Bq.cells 245 [p,.arr 1 0 0 0],.rows 5 1 []]) B E (hp [Bq.cells 245 [p,.fb .empty],.dead])/\St B E (hp [Bq.cells 245 [p,.fb .empty],.dead]) F W w'/\Conc B E (hp [Bq.cells 245 [p,.fb .empty],.dead]) (Gv .empty) v:=by intro a q cap z j f u R le G;have h:w.heap[b]? = some (.cells #[C[0],.slice a 0 cap] 245 (0,0)):=(by rw[h3];congr 1;rw[<-f,<-Z]);refine (Tryz.builder_str0 b cap C[0] a q w j h (u.trans h) R).mono ?_;rintro e w' ⟨rfl,rfl⟩;obtain⟨Y,I⟩:=G.kill 1;obtain⟨S,l⟩:=Y.fbox (b:=b) (C:=#[C[0],.slice a 0 cap]) (s:=.empty) (by rfl) hb ((u.trans h)) (λv hv=>by simp at hv;subst hv;exact .fbn _ _ _ rfl);rw[eH]at S l;exact⟨_,z,ι,rfl,(le.trans I).trans l,S,.of_val _⟩
 rcases hor with⟨hi,_⟩|⟨g,k,D,hg,g1,g2,g3,g4,g5,g6⟩
 .unfold Hk at c;rw[hi]at c;exact go none none 0 σ w.drew c.1 rfl rfl (Le.refl _ _ _) (s.drew _)
 .unfold Hk at c;rw[hg]at c;simp only[Nat.zero_mul,Nat.zero_add,Nat.sub_zero]at c;obtain⟨_,f⟩:=c;by_cases ht:k=0
  .subst ht;obtain⟨G,J⟩:=(s.drew (w.drawn+1)).newFrozen (.view ⟨g,0,none⟩ 5);have V:=(Array.getElem?_eq_some_iff.1 h3).1;refine go _ _ 0 _ (w.drew.alloc (.view ⟨g,0,none⟩ 5)) f ?_ (Lib.run_unsafeSliceData_zero _ _ _ 5 Go.Proofs.Tryz.underlying308 _ _ (5,D.size) (by have:w.drew.heap[g]? = some (.cells D 5 (0,0)):=g3;simp[World.shape?,this])) J G;show (w.heap.push _)[b]? = _;rw[Array.getElem?_push,if_neg ω]
  .exact go _ _ k σ w.drew f rfl (Lib.run_unsafeSliceData_row _ _ _ _ _ _ ht) (Le.refl _ _ _) (s.drew _)
theorem Aqh (h:Yw l=some r):Bo prog 166 [.loc 0 0] [.cells 245 [p,.arr 1 l.length 0 l.length],.rows 5 1 (map (O .u8) l)] (Gv r) [.cells 245 [p,.fb r],.dead]:=by
 unfold Yw at h;split at h
 .rename_i a8;cases h;by_cases u:l = []
  .subst u;exact A20
  refine⟨⟨_,func166,κ,κ⟩,λσ F W w ι vs s R=>?_⟩;obtain⟨v,rfl,hv⟩:=Uw R;obtain⟨b,hb,hv⟩:=hv.loc_inv;subst hv;have A:=s.obj 0;unfold Cr at A;rw[Aax]at A;obtain⟨b',C,e1,_,_,h3,X,h5⟩:=A;rw[hb]at e1;cases e1;have X:C.size=2:=X;have hC:C = #[C[0],C[1]]:=by
   apply Array.ext
   .simp[X]
   .intro i hi a6
    match i with| 0=>rfl| 1=>rfl| i+2=>simp at a6;omega
  have a7:=h5 1 (.arr 1 l.length 0 l.length) C[1] rfl (by simp[X]);have M:hp [Bq.cells 245 [p,.arr 1 l.length 0 l.length],.rows 5 1 (map (O .u8) l)] 1 = .rows 5 1 (map (O .u8) l):=rfl;have y:=a7.arr_inv M ψ;have hor:=s.obj 1;unfold Cr at hor;rw[M]at hor;obtain⟨_,L,hor⟩:=hor;rw[length_map]at L;rcases hor with⟨_,I⟩|⟨g,q,D,hg,g1,g2,g3,g4,g5,g6⟩
  .exact (u (by simpa using I)).elim
  .rw[length_map]at g5;unfold Hk at y;rw[hg]at y;simp only[Nat.zero_mul,Nat.zero_add,Nat.sub_zero]at y;obtain⟨ht,G⟩:=y;have c:(Fm l).length=l.length:=(by simp[Fm]);have f:∀(j:Nat) (x:UInt8),(Fm l)[j]? = some x->D[j]? = some (Value.int .u8 x.toNat):=(by intro j x hx;have hj:=A2z a8 hx;obtain⟨gg,q1,q2,q3⟩:=g6;have E:(map (O .u8) l)[j]? = some (O .u8 x.toNat):=(by rw[getElem?_map,hj];rfl);have Z:j<(map (O .u8) l).length:=(List.getElem?_eq_some_iff.1 E).1;have q4:=q3 j 0 Z ω;have q5:=(q2 j _ 0 _ E rfl).1;have:gg j 0=Value.int .u8 x.toNat:=(by generalize gg j 0=z at q5;cases q5;rfl);rw[this]at q4;simpa using q4);have S:w.heap[b]? = some (.cells #[C[0],.slice (some ⟨g,0,none⟩) (Fm l).length q] 245 (0,0)):=(by rw[h3];congr 1;rw[c];have:C[1] = .slice (some ⟨g,0,none⟩) l.length q:=G;rw[<-this,<-hC]);have U:l.length<=D.size:=(by rw[g4];omega);have call:=Tryz.builder_str b g q C[0] D (Fm l) w (by intro e;apply u;rw[<-length_eq_zero_iff,<-c,e];rfl) S g3 (by rw[c];exact g5) (by rw[c];exact U) (by rw[c];omega) f;refine call.mono ?_;rintro e w' ⟨rfl,rfl⟩;have J:(Fm l).length≠0:=(by rw[c];simpa using u);have a1:σ.le (Ay σ g (some (.cells D 5 (0,(Fm l).length)))):=(by intro b' o' hb';rw[Cq _ _ (by intro e;subst e;rw[g1]at hb';cases hb')];exact hb');have Y:(w.drew.freeze ⟨g,0,none⟩ (Fm l).length).heap[g]? = some (.cells D 5 (0,(Fm l).length)):=(by unfold World.freeze;rw[if_neg J];simp only[Array.getElem?_modify,if_true];have:w.drew.heap[g]? = some (.cells D 5 (0,0)):=g3;rw[this];simp);have N:∀b,b≠g->(w.drew.freeze ⟨g,0,none⟩ (Fm l).length).heap[b]? = w.heap[b]?:=by
    intro b hb;unfold World.freeze;split
    .rfl
    .simp only[Array.getElem?_modify];rw[if_neg (Ne.symm hb)];rfl
   have le:Le σ ι (hp [Bq.cells 245 [p,.arr 1 l.length 0 l.length],.rows 5 1 (map (O .u8) l)]) (Ay σ g (some (.cells D 5 (0,(Fm l).length)))) ι (Ay (hp [Bq.cells 245 [p,.arr 1 l.length 0 l.length],.rows 5 1 (map (O .u8) l)]) 1 .dead):=(by have:=Le.upd (ι:=ι) (H:=hp [Bq.cells 245 [p,.arr 1 l.length 0 l.length],.rows 5 1 (map (O .u8) l)]) a1 1 (ι 1) .dead ⟨λ_ e=>e,(λ_ e=>by cases e),(λ_ E1 ad ac e=>by cases e)⟩;rwa [Jm]at this);have eH:Ay (Ay (hp [Bq.cells 245 [p,.arr 1 l.length 0 l.length],.rows 5 1 (map (O .u8) l)]) 1 .dead) 0 (.cells 245 [p,.fb ⟨(Fm l).toArray⟩])=hp [Bq.cells 245 [p,.fb ⟨(Fm l).toArray⟩],.dead]:=by
    funext i
    match i with| 0=>rfl| 1=>rfl| i+2=>rfl
   have ab:b≠g:=(by intro e;have:=s.inj 0 1 g rfl rfl (by rw[hb,e];rfl) (by rw[hg];rfl);cases this);have s2:St (Ay σ g (some (.cells D 5 (0,(Fm l).length)))) ι (Ay (hp [Bq.cells 245 [p,.arr 1 l.length 0 l.length],.rows 5 1 (map (O .u8) l)]) 1 .dead) F W (w.drew.freeze ⟨g,0,none⟩ (Fm l).length):=by
    refine s.touch (hdrw:=by unfold World.freeze;split <;> exact Nat.le_succ _) 1 g (λ_ _=>rfl) (λx e=>Cq _ _ e) le N (λx e=>Cq _ _ e) (λo A=>by rw[Ce]at A;cases A;exact Y) ?_ g2 ?_ ?_ ?_ ?_ ?_
    .intro x hx V aa;exact hx (s.inj x 1 g V rfl aa (by rw[hg];rfl))
    .intro b0 V;rw[Ce]at V;cases V
    .unfold Cr;rw[Ce];trivial
    .unfold World.freeze;split <;> rfl
    .unfold World.freeze;split <;> rfl
    .unfold World.freeze;split <;> rfl
   obtain⟨s3,B⟩:=s2.fbox (b:=b) (C:=#[C[0],.slice (some ⟨g,0,none⟩) (Fm l).length q]) (s:=⟨(Fm l).toArray⟩) (by rfl) hb ((N b ab).trans S) (λv hv=>by simp only[getElem?_toArray,getElem?_cons_succ,getElem?_cons_zero,Option.some.injEq]at hv;subst hv;have k:(ByteArray.mk (Fm l).toArray).size=(Fm l).length:=(by simp[ByteArray.size]);rw[<-k];refine .fb _ g q D (by rw[Ce,k]) (by rw[k];exact J) (by rw[k,c];omega) (by rw[k,c];exact U) (by rw[k,c];omega) (λj x hx=>f j x (by simpa using hx)));rw[eH]at s3 B;exact⟨_,_,ι,rfl,le.trans B,s3,.of_val _⟩
 .cases h
theorem Aqi {f:ByteArray} (h:(bif Nat.beq f.size 0 then none else some f)=some r):Bo prog 166 [.loc 0 0] [.cells 245 [p,.fb f]] (Gv r) [.cells 245 [p,.fb f]]:=by
 have q:r.size≠0/\f=r:=by cases hb:Nat.beq f.size 0 with| true=>rw[hb]at h;cases h| false=>rw[hb]at h;cases h;exact⟨(λe=>by rw[e]at hb;exact Bool.noConfusion hb),rfl⟩
 clear h;obtain⟨q,B⟩:=q;subst B;refine⟨⟨_,func166,κ,κ⟩,λσ F W w ι vs s y=>?_⟩;obtain⟨v,rfl,hv⟩:=Uw y;obtain⟨b,hb,hv⟩:=hv.loc_inv;subst hv;have E:=s.obj 0;unfold Cr at E;rw[Aax]at E;obtain⟨X,C,M,_,_,h3,A,S⟩:=E;rw[hb]at M;cases M;have A:C.size=2:=A;have L:C = #[C[0],C[1]]:=by
  apply Array.ext
  .simp[A]
  .intro i hi G
   match i with| 0=>rfl| 1=>rfl| i+2=>simp at G;omega
 have l:=S 1 (.fb f) C[1] rfl (by simp[A]);generalize C[1]=u at L l;generalize C[0]=N at L;subst L;cases l with
 | cc l=>
  cases l with
  | fbn _ a cap h0=>exact (q h0).elim
  | fb _ g cap D R h0 z J V I=>
   have hg:=s.sto _ _ R;have k:f.data.toList.length=f.size:=(by rw[Array.length_toList];rfl);have call:=Tryz.builder_str b g cap N D f.data.toList w (by intro e;rw[e]at k;exact h0 k.symm) (by rw[k];exact h3) hg (by rw[k];exact z) (by rw[k];exact J) (by rw[k];omega) (λj x hx=>I j x (by simpa using hx));refine call.mono ?_;rintro e w' ⟨rfl,rfl⟩;have hw:w.drew.freeze ⟨g,0,none⟩ f.data.toList.length=w.drew:=by
    unfold World.freeze;split
    .rfl
    .have:w.drew.heap.modify g (λo=>match o with|.cells c elem (lo,hi)=>.cells c elem (if lo==hi then (0,0+f.data.toList.length) else (min lo 0,max hi (0+f.data.toList.length))) | o=>o)=w.drew.heap:=by
      apply Array.ext_getElem?;intro i;rw[Array.getElem?_modify];split
      .rename_i e;subst e;have:w.drew.heap[g]? = some (.cells D 5 (0,f.size)):=hg;rw[this];simp[k,Ne.symm h0]
      .rfl
     exact congrArg (λh=>{w.drew with heap:=h}) this
   rw[hw];have U:(⟨f.data.toList.toArray⟩:ByteArray)=f:=ψ;rw[U];exact⟨_,σ,ι,rfl,Le.refl _ _ _,s.drew _,.of_val _⟩
end Go.Ab
namespace Go.Ab
open Go Go.Proofs Go.Proofs.Tryz
set_option linter.unusedVariables false
class OK {α:Type} (o:Option α) (G:outParam (α->Prop)):Prop where
 ok:∀{r:α},o=some r->G r
theorem E4 {α:Type} {G:α->Prop}:OK (none:Option α) G:=⟨λh=>by cases h⟩
section
variable {P:Program} {C:Cfg} {Qn:Nat->Bx->Hp->Prop} {Qe:Nat->Nat->Bx->Hp->Prop} {Qr:Nat->Bx->Hp->Prop} {n:Nat} {e:Bx} {H:Hp} {β:Type} {r:β}
variable {T:Dc} {an:Nat->Ann} {nl:Nat->List (Nat×Nat)} {ops:Array Oper} {o:Oper} {os:List Oper} {acc:Jx} {K:Nat->Bx->Hp->Jx->Prop}
variable {fn:Func} {hi i lo:Int} {xs ys zs:List AV} {hs:List Bq} {b kk n0:Nat} {E S α:Type} {J:E->Option β} {l:List α} {g:List α->List AV} {m:List α->Option β} {s0:S} {iv:S->List (Nat×AV)} {hv:S->List (Nat×Bq)} {x:α} {ra:α->AV} {G:α->Prop}
theorem Hu {p:Nat×Bool} {s:Nat} {b:Bool} {m m':Option β} (h:(bif b then m else m')=some r) (h1:b=true->m=some r->F9 (Fz P T an nl ops (o::os) n (Ay e s (.val (.bool true))) H acc K)) (h2:b=false->m'=some r->F9 (Fz P T an nl ops (o::os) n (Ay e s (.val (.bool false))) H acc K)) (hg:o.guard=some p:=by exact rfl) (hs:(ops[p.1]?).bind (·.dst)=some s:=by exact rfl) (hb:e s = .val (.bool b):=by exact rfl):F9 (Fz P T an nl ops (o::os) n e H acc K):=A14 h h1 h2 hb
theorem nw {c:Code} (k:wc P C c Qn Qe Qr n e H):F9 (wc P C c Qn Qe Qr n e H):=.mk k
theorem Cz {o:S⊕E} {x:E} (h:some (Sum.inr x)=some o) (hx:∀x,Sum.inr x=o->J x=some r:=by assumption):J x=some r:=hx x (Option.some.inj h)
theorem lpj {o:S} {J:S->Option β} {x:S} (h:some x=some o) (hx:∀y,y=o->J y=some r:=by assumption):J x=some r:=hx x (Option.some.inj h)
theorem lpn {o:S⊕E} {s':S} {K:Nat->Bx->Hp->Prop} {inv:S->Prop} {H0:Hp} (h:some (Sum.inl s')=some o) (hn:∀s' n' e' H',Sum.inl s'=o->G3 e' (iv s')->G5 H' (Ci H0 (hv s')) n0 n0->inv s'->K n' e' H':=by assumption) (hs:G3 e (iv s'):=by (repeat refine⟨rfl,?_⟩);exact trivial) (hh:G5 H (Ci H0 (hv s')) n0 n0:=by (repeat refine⟨⟨rfl,rfl⟩,?_⟩);exact trivial) (hi:inv s':=by first|trivial|exact rfl | ((repeat refine Jc ?_ _ _);first|exact rfl|assumption)):K n e H:=hn s' n e H (Option.some.inj h) hs hh hi
theorem jnn {o x:E} {s:S} {J:S->Prop} {K:Nat->Bx->Hp->Prop} {H0:Hp} (h:some x=some o) (hn:∀s n' e' H',J s->G3 e' (iv s)->G5 H' (Ci H0 (hv s)) n0 n0->K n' e' H':=by assumption) (hJ:J s:=by exact Option.some.inj h) (hs:G3 e (iv s):=by (repeat refine⟨rfl,?_⟩);exact trivial) (hh:G5 H (Ci H0 (hv s)) n0 n0:=by (repeat refine⟨⟨rfl,rfl⟩,?_⟩);exact trivial):K n e H:=hn s n e H hJ hs hh
theorem Sb {o:Option α} {m:α->Option β} {f:FuncId} {args:List AV} {K:Eff->Nat->Prop} (h:o.bind m=some r) [i:OK o G] (k:∀v,m v=some r->K ⟨ra v,[],[]⟩ n) (hG:∀v,G v->A8 P f args (ra v):=by exact λ_ h=>h) (hf:args.all AV.free=true:=by exact rfl):Fk P n H f args K := De h λv hv h=>Fk.mk _ (hG v (i.ok hv)) hf (k v h)
theorem Aqj {o:Option α} {m:α->Option β} {f:FuncId} {args args':List AV} {K:Eff->Nat->Prop} (h:o.bind m=some r) [i:OK o G] (k:∀v,m v=some r->K ⟨ra v,[],[]⟩ n) (hG:∀v,G v->A8 P f args' (ra v):=by exact λ_ h=>h) (hs:Ri args args':=by (repeat first|refine⟨Sub.refl _,?_⟩|refine⟨Sub.nil _,?_⟩);exact trivial) (hf:args.all AV.free=true:=by exact rfl):Fk P n H f args K := De h λv hv h=>Fk.mk _ (A8.sub (hG v (i.ok hv)) hs (Sub.refl _)) hf (k v h)
theorem Xi {o:Option α} {m:α->Option β} {f:FuncId} {args largs:List AV} {hs':α->List Bq} {K:Eff->Nat->Prop} (l:List Nat) (h:o.bind m=some r) [i:OK o G] (k:∀v,m v=some r->K ⟨ren (Dt n l) (ra v),Fy (Dt n l) 0 hs++Cn (Dt n l) l.length ((hs' v).length-l.length),Fy (Dt n l) 0 (hs' v)⟩ (n+((hs' v).length-l.length))) (hG:∀v,G v->Bo P f largs hs (ra v) (hs' v):=by exact λ_ h=>h) (ha:largs.map (ren (Dt n l))=args:=by exact rfl) (ok:∀v,Nz n l largs hs (ra v) (hs' v)=true:=by exact λ_=>rfl) (hh:Ou H (Fy (Dt n l) 0 hs):=by (repeat refine⟨rfl,?_⟩);exact trivial):Fk P n H f args K := De h λv hv h=>Fk.act l largs hs (ra v) (hs' v) (hG v (i.ok hv)) ha (ok v) hh (k v h)
theorem Od {f:α->AV} {m:α->Option β} {K:Nat->AV->Prop} (h:(Ag l i).bind m=some r) (k:∀(n:Nat) (x:α),i=n->l[n]? = some x->m x=some r->K n (f x)) (he:ys=l.map f:=by first|exact rfl|exact Ll _|exact Lm _|exact Jn _):Vz ys i K:=Apo he h k
theorem Ih {f:α->AV} {m:α->Option β} {K:Nat->Prop} {len:Nat} (h:(Ag l i).bind m=some r) (k:∀(n:Nat) (x:α),i=n->l[n]? = some x->m x=some r->K n) (he:ys=l.map f:=by first|exact rfl|exact Ll _|exact Lm _|exact Jn _) (hl:len=l.length:=by first|exact rfl|assumption|exact Ip (by assumption) | ((repeat refine Jc ?_ _ _);first|exact rfl|assumption)) (hk:kk=l.length:=by first|exact rfl|assumption|exact Ip (by assumption) | ((repeat refine Jc ?_ _ _);first|exact rfl|assumption)):Th len kk ys i K:=A15 he hl hk h k
theorem Ni {f:α->AV} {m:α->Option β} {K:Nat->Prop} {off len:Nat} (h:(H3 l off len i).bind m=some r) (k:∀(n:Nat) (x:α),i=n->l[off+n]? = some x->m x=some r->K n) (he:ys=l.map f:=by first|exact rfl|exact Ll _|exact Lm _|exact Jn _) (hk:kk=l.length:=by first|exact rfl|assumption|exact Ip (by assumption) | ((repeat refine Jc ?_ _ _);first|exact rfl|assumption)):Th len kk ys i K:=A16 he hk h k
theorem Sc {f:α->AV} {K:Int->Prop} (k:K (l.length:Int)) (he:ys=l.map f:=by first|exact rfl|exact Ll _|exact Lm _|exact Jn _):N2 ys K:=A2h he k
theorem Sd {f:α->AV} {K:Prop} (k:K) (he:ys=l.map f:=by first|exact rfl|exact Ll _|exact Lm _|exact Jn _) (hk:kk=l.length:=by first|exact rfl|assumption|exact Ip (by assumption) | ((repeat refine Jc ?_ _ _);first|exact rfl|assumption)):Hs kk ys K:=A2i he hk k
theorem Se {K:Prop} (k:K):Hs 0 [] K:=.mk rfl k
theorem Sf {f:α->AV} {n i:Nat} {K:AV->Prop} (k:K (f x)) (he:ys=l.map f:=by first|exact rfl|exact Ll _|exact Lm _|exact Jn _) (hk:kk=l.length:=by first|exact rfl|assumption|exact Ip (by assumption) | ((repeat refine Jc ?_ _ _);first|exact rfl|assumption)) (hi:i=n/\l[n]? = some x:=by first|exact⟨Nat.zero_add _,by assumption⟩|exact⟨rfl,by assumption⟩):M0 kk i ys K:=A2b he hk hi.1 hi.2 k
theorem Aqk {f:α->AV} {n i:Nat} {j:Int} {p:AV} {K:List AV->Prop} (k:K ((Cu l j x).map f)) (he:ys=l.map f:=by first|exact rfl|exact Ll _|exact Lm _|exact Jn _) (hp:p=f x:=by exact rfl) (hi:i=n/\j=(n:Int):=by first|exact⟨Nat.zero_add _,by assumption⟩|exact⟨rfl,by assumption⟩|exact⟨rfl,Apk _ (by assumption)⟩):V2 ys i p K:=M7 he hp hi.1 hi.2 k
theorem Lo {ys:List α} {f:α->AV} {len:Nat} {K:List AV->Nat->Prop} {KP:List AV->Nat->Nat->Prop} (h:(Cd b l ys).bind m=some r) (k:∀o:List α,m o=some r->K (o.map f) o.length) (he:xs=l.map f/\zs=ys.map f:=by first|exact⟨rfl,rfl⟩ | (refine⟨?_,?_⟩;rotate_left;exact rfl;exact rfl)) (hk:kk=l.length:=by first|exact rfl|assumption|exact Ip (by assumption) | ((repeat refine Jc ?_ _ _);first|exact rfl|assumption)) (hl:len=l.length:=by first|exact rfl|assumption|exact Ip (by assumption) | ((repeat refine Jc ?_ _ _);first|exact rfl|assumption)):N1 xs zs kk len b K KP:=Tu he.1 he.2 hk hl h k
theorem Aql {l:List Int} {s:ByteArray} {len:Nat} {m:List Int->Option β} {K:List AV->Nat->Prop} {KP:List AV->Nat->Nat->Prop} (h:(Cd b l (N6 s)).bind m=some r) (k:∀o:List Int,m o=some r->K (o.map λn=>.val (.int .u8 n)) o.length) (he:xs=l.map λn=>.val (.int .u8 n):=by exact rfl) (hk:kk=l.length:=by first|exact rfl|assumption|exact Ip (by assumption) | ((repeat refine Jc ?_ _ _);first|exact rfl|assumption)) (hl:len=l.length:=by first|exact rfl|assumption|exact Ip (by assumption) | ((repeat refine Jc ?_ _ _);first|exact rfl|assumption)):N1 xs (Kj s) kk len b K KP:=A2e he hk hl h k
class GL {α:Type} (g:List α->List AV) (f:outParam (α->AV)):Prop where
 eq:∀l,g l=l.map f
instance:GL Bj Ee:=⟨Ll⟩
instance:GL Hh Fv:=⟨Lm⟩
instance:GL Gw Gg:=⟨Jn⟩
theorem Akt {f:α->AV} [i:GL g f] {ys:List α} {len:Nat} {K:List AV->Nat->Prop} {KP:List AV->Nat->Nat->Prop} (h:(Cd b l ys).bind m=some r) (k:∀o:List α,m o=some r->K (g o) o.length) (hz:zs=ys.map f:=by first|exact rfl|exact GL.eq _) (hk:kk=l.length:=by first|exact rfl|assumption|exact Ip (by assumption) | ((repeat refine Jc ?_ _ _);first|exact rfl|assumption)) (hl:len=l.length:=by first|exact rfl|assumption|exact Ip (by assumption) | ((repeat refine Jc ?_ _ _);first|exact rfl|assumption)):N1 (g l) zs kk len b K KP:=A2f i.eq (i.eq l) hz hk hl h k
theorem Aqm {ys:List α} {f:α->AV} {K:List AV->Nat->Prop} (h:(Cd b [] ys).bind m=some r) (k:∀o:List α,m o=some r->K (o.map f) o.length) (hz:zs=ys.map f:=by exact rfl):Ti zs b K:=Apw hz h k
theorem Aqn {f:α->AV} [i:GL g f] {ys:List α} {K:List AV->Nat->Prop} (h:(Cd b [] ys).bind m=some r) (k:∀o:List α,m o=some r->K (g o) o.length) (hz:zs=g ys:=by exact rfl):Ti zs b K:=Apx i.eq (hz.trans (i.eq ys)) h k
theorem Jf {z:α} {f:α->AV} {za:AV} {len cap:Int} {K:Nat->List AV->Prop} (h:(Gl b len cap z).bind m=some r) (k:∀o:List α,m o=some r->K o.length (o.map f)) (hz:za=f z:=by first|exact (rfl:_=O _ _) | exact (rfl:_=Aw _) | exact rfl):V1 len cap b za K:=A2g hz h k
theorem Ux {f:α->AV} {K:List AV->Prop} (h:(F5 l lo hi).bind m=some r) (k:∀l':List α,m l'=some r->K (l'.map f)) (he:ys=l.map f:=by first|exact rfl|exact Ll _|exact Lm _|exact Jn _):N0 ys lo hi K:=Ajq he h k
theorem Aqo {f:α->AV} [i:GL g f] {K:List AV->Prop} (h:(F5 l lo hi).bind m=some r) (k:∀l':List α,m l'=some r->K (g l')):N0 (g l) lo hi K:=A2c i.eq (i.eq l) h k
theorem Xj {f:α->AV} [i:GL g f] {K:List AV->Prop} (h:(F5 l lo l.length).bind m=some r) (k:∀l':List α,m l'=some r->K (g l')):N0 (g l) lo (g l).length K:=A2d i.eq (i.eq l) h k
theorem Afm {f:α->AV} {K:List AV->Prop} (h:(F5 l lo l.length).bind m=some r) (k:∀l':List α,m l'=some r->K (l'.map f)) (he:ys=l.map f:=by first|exact rfl|exact Ll _|exact Lm _|exact Jn _):N0 ys lo ys.length K:=Apv he h k
theorem E5 {step:S->Option (S⊕E)} {b:Code} (h:(Ak step s0).bind J=some r) (iv:S->List (Nat×AV)) (hv:S->List (Nat×Bq)) (inv:S->Prop) (body:∀(s:S) (u:Nat->Value) (K:Nat->Bx->Hp->Prop) (o:S⊕E),step s=some o->(∀x,.inr x=o->J x=some r)->(∀s' n' e' H',.inl s'=o->G3 e' (iv s')->G5 H' (Ci H (hv s')) n n->inv s'->K n' e' H')->inv s -> wc P C b K Qe Qr n (Jy (Fh b) e u (iv s)) (Ci H (hv s))) (hb:∀s,Jz n (iv s) (hv s)=true:=by exact λ_=>rfl) (hs:G3 e (iv s0):=by (repeat refine⟨rfl,?_⟩);exact trivial) (hh:G5 H (Ci H (hv s0)) n n:=by (repeat refine⟨⟨rfl,rfl⟩,?_⟩);exact trivial) (h0:inv s0:=by first|exact rfl|assumption|exact Ip (by assumption) | ((repeat refine Jc ?_ _ _);first|exact rfl|assumption)):wc P C (.loop b) Qn Qe Qr n e H:=Ap3 h iv hv inv hb hs hh h0 body
theorem Aqp {step:S->Option (S⊕E)} {b:Code} (h:(Ak step s0).bind J=some r) (iv:S->List (Nat×AV)) (hv:S->List (Nat×Bq)) (body:∀(s:S) (u:Nat->Value) (K:Nat->Bx->Hp->Prop) (o:S⊕E),step s=some o->(∀x,.inr x=o->J x=some r)->(∀s' n' e' H',.inl s'=o->G3 e' (iv s')->G5 H' (Ci H (hv s')) n n->True->K n' e' H') -> wc P C b K Qe Qr n (Jy (Fh b) e u (iv s)) (Ci H (hv s))) (hb:∀s,Jz n (iv s) (hv s)=true:=by exact λ_=>rfl) (hs:G3 e (iv s0):=by (repeat refine⟨rfl,?_⟩);exact trivial) (hh:G5 H (Ci H (hv s0)) n n:=by (repeat refine⟨⟨rfl,rfl⟩,?_⟩);exact trivial):wc P C (.loop b) Qn Qe Qr n e H:=Ap3 h iv hv (λ_=>True) hb hs hh trivial λs u K o h1 h2 h3 _=>body s u K o h1 h2 h3
theorem Afn {S':Type} {c:Code} {o:Option S'} {m:S'->Option β} (inj:S->S') (h:o.bind m=some r) (iv:S->List (Nat×AV)) (hv:S->List (Nat×Bq)) (k1:∀x,o=some x->∀(K:Nat->Bx->Hp->Prop),(∀s n' e' H',inj s=x->G3 e' (iv s)->G5 H' (Ci H (hv s)) n n->K n' e' H')->(∀y,y=x->m y=some r)->wc P C c K Qe Qr n e H) (k2:∀(s:S) (u:Nat->Value),m (inj s)=some r->Qn n (Jy (Fh c) e u (iv s)) (Ci H (hv s))) (hb:∀s,Jz n (iv s) (hv s)=true:=by exact λ_=>rfl):wc P C c Qn Qe Qr n e H := Apn h λx hx hj=>Wb (λs=>inj s=x) iv hv hb (λK hK=>k1 x hx K hK hj) λs u hs=>k2 s u (hj _ hs)
theorem Lp {c:Code} {o:Option S} {m:S->Option β} (h:o.bind m=some r) (iv:S->List (Nat×AV)) (hv:S->List (Nat×Bq)) (k1:∀x,o=some x->∀(K:Nat->Bx->Hp->Prop),(∀s n' e' H',s=x->G3 e' (iv s)->G5 H' (Ci H (hv s)) n n->K n' e' H')->(∀y,y=x->m y=some r)->wc P C c K Qe Qr n e H) (k2:∀(s:S) (u:Nat->Value),m s=some r->Qn n (Jy (Fh c) e u (iv s)) (Ci H (hv s))) (hb:∀s,Jz n (iv s) (hv s)=true:=by exact λ_=>rfl):wc P C c Qn Qe Qr n e H:=Afn (λs=>s) h iv hv k1 k2 hb
abbrev C0:Cfg:={T:=Cm,an:=λ_=>.ask}
theorem pw {f:FuncId} {c:Code} {args:List AV} {r:AV} (C:Cfg) (hf:prog.funcs[f]? = some fn) (hv:wc prog C c (λ_ e H=>Tn C.T fn.results.toList (· = r) e H) (λ_ _ _ _=>False) (λ_ e H=>Tn C.T fn.results.toList (· = r) e H) 0 (V8 args) H0) (hT:C.T=Cm:=by exact rfl) (hb:fn.body=some c:=by exact rfl) (hname:(fn.name == "runtime.NumGoroutine")=false:=by kernel_rfl) (hok:V9 fn c args.length=true:=by kernel_rfl) (hfree:r.free=true:=by exact rfl):A8 prog f args r:=A2j (by rw[hT];exact Ap9) Yt hf hb hname hok hfree hv
theorem aw {f:FuncId} {c:Code} {args:List AV} {r:AV} {hs':List Bq} (C:Cfg) (fz:Bool) (hf:prog.funcs[f]? = some fn) (hv:wc prog C c (λ_ e H=>Tq C.T fz fn.results.toList r hs' e H) (λ_ _ _ _=>False) (λ_ e H=>Tq C.T fz fn.results.toList r hs' e H) hs.length (V8 args) (hp hs)) (hT:C.T=Cm:=by exact rfl) (hb:fn.body=some c:=by exact rfl) (hname:(fn.name == "runtime.NumGoroutine")=false:=by kernel_rfl) (hok:V9 fn c args.length=true:=by kernel_rfl) (hok':Ajm hs r hs'=true:=by exact rfl):Bo prog f args hs r hs':=A2k fz (by rw[hT];exact Ap9) Yt hf hb hname hok hok' hv
end
variable {P Q:Prop}
theorem opk {P:Program} {T:Dc} {an:Nat->Ann} {nl:Nat->List (Nat×Nat)} {o:Oper} {n:Nat} {e:Bx} {H:Hp} {acc:Jx} {K:Nat->Bx->Hp->Jx->Prop} (k:opK P T an nl o n e H acc K):opK P T an nl o n e H acc K:=k
theorem cnd {t:Bool} {A B:Prop} (k:bif t then A else B):bif t then A else B:=k
structure Hd (Q:Prop):Prop where
 get:Q
theorem Z (k:Q) (h:Hd Q->P:=by
  intro q
  repeat first
    | ((with_reducible show F9 (Fz _ _ _ _ _ (_::_) _ _ _ _ _));(first|refine nx ?_|refine Rk ?_|refine Rj ?_))
    | ((with_reducible refine opk ?_);conv=>whnf
       first
      | ((with_reducible show F9 _);refine nw ?_)
      | ((with_reducible show Jb _ _ _);refine Jb.mk _ rfl ?_)
      | ((with_reducible show N2 _ _);refine Sc ?_)
      | ((with_reducible show M0 _ _ _ _);refine Sf ?_)
      | ((with_reducible show Hs _ _ _);(first|refine Sd ?_|refine Se ?_)))
    | ((with_reducible show F9 (Fz _ _ _ _ _ [] _ _ _ _ _));refine M6 ?_)
    | ((with_reducible show F9 (wc _ _ _ _ _ _ _ _ _));refine nw ?_)
    | with_reducible refine A9 ?_
    | with_reducible refine Ho ?_
    | with_reducible refine Ajv ?_
    | with_reducible refine Li ?_
    | with_reducible refine M8 ?_
    | with_reducible refine Ic ?_
    | with_reducible refine Ap0 ?_
    | with_reducible refine Ajx ?_
    | with_reducible refine Ajw ?_
    | ((with_reducible refine cnd ?_);first|refine Ia rfl ?_|refine Ajg rfl ?_)
    | ((with_reducible show N5 _ _ _);refine N5.mk κ ?_)
    | ((with_reducible show wc _ _ (.cond _ _ _) _ _ _ _ _ _);first|refine Aee ?_|refine Aef ?_)
    | refine nw ?_
    | refine nx ?_
    | refine M6 ?_
    | refine Rk ?_
    | refine Rj ?_
    | (conv=>whnf
       first
      | ((with_reducible show F9 _);refine nw ?_)
      | ((with_reducible show Jb _ _ _);refine Jb.mk _ rfl ?_)
      | ((with_reducible show N2 _ _);refine Sc ?_)
      | ((with_reducible show M0 _ _ _ _);refine Sf ?_)
      | ((with_reducible show Hs _ _ _);(first|refine Sd ?_|refine Se ?_)))
  exact q.get):P:=h ⟨k⟩
theorem ZS (k:Q) (h:Hd Q->P:=by
  intro q
  repeat first
    | ((with_reducible show F9 (Fz _ _ _ _ _ (_::_) _ _ _ _ _));(first|refine nx ?_|refine Rk ?_|refine Rj ?_))
    | ((with_reducible refine opk ?_);conv=>whnf
       first
      | ((with_reducible show F9 _);refine nw ?_)
      | ((with_reducible show Jb _ _ _);refine Jb.mk _ rfl ?_)
      | ((with_reducible show N2 _ _);refine Sc ?_)
      | ((with_reducible show M0 _ _ _ _);refine Sf ?_)
      | ((with_reducible show Hs _ _ _);(first|refine Sd ?_|refine Se ?_)))
    | ((with_reducible show F9 (Fz _ _ _ _ _ [] _ _ _ _ _));refine M6 ?_)
    | ((with_reducible show F9 (wc _ _ _ _ _ _ _ _ _));refine nw ?_)
    | with_reducible refine A9 ?_
    | with_reducible refine Ajv ?_
    | with_reducible refine Li ?_
    | with_reducible refine M8 ?_
    | with_reducible refine Ic ?_
    | with_reducible refine Ajx ?_
    | with_reducible refine Ajw ?_
    | ((with_reducible refine cnd ?_);first|refine Ia rfl ?_|refine Ajg rfl ?_)
    | ((with_reducible show N5 _ _ _);refine N5.mk κ ?_)
    | ((with_reducible show wc _ _ (.cond _ _ _) _ _ _ _ _ _);first|refine Aee ?_|refine Aef ?_)
    | refine nw ?_
    | refine nx ?_
    | refine M6 ?_
    | refine Rk ?_
    | refine Rj ?_
    | (conv=>whnf
       first
      | ((with_reducible show F9 _);refine nw ?_)
      | ((with_reducible show Jb _ _ _);refine Jb.mk _ rfl ?_)
      | ((with_reducible show N2 _ _);refine Sc ?_)
      | ((with_reducible show M0 _ _ _ _);refine Sf ?_)
      | ((with_reducible show Hs _ _ _);(first|refine Sd ?_|refine Se ?_)))
  exact q.get):P:=h ⟨k⟩
theorem ZO (k:Q) (h:Hd Q->P:=by
  intro q
  repeat first
    | ((with_reducible show F9 (Fz _ _ _ _ _ (_::_) _ _ _ _ _));(first|refine nx ?_|refine Rk ?_|refine Rj ?_))
    | ((with_reducible refine opk ?_);conv=>whnf
       first
      | ((with_reducible show Jb _ _ _);refine Jb.mk _ rfl ?_)
      | ((with_reducible show N2 _ _);refine Sc ?_)
      | ((with_reducible show M0 _ _ _ _);refine Sf ?_)
      | ((with_reducible show Hs _ _ _);(first|refine Sd ?_|refine Se ?_)))
    | ((with_reducible show F9 (Fz _ _ _ _ _ [] _ _ _ _ _));refine M6 ?_)
    | ((with_reducible show N5 _ _ _);refine N5.mk κ ?_)
    | refine nx ?_
    | refine M6 ?_
    | refine Rk ?_
    | refine Rj ?_
    | (conv=>whnf
       first
      | ((with_reducible show Jb _ _ _);refine Jb.mk _ rfl ?_)
      | ((with_reducible show N2 _ _);refine Sc ?_)
      | ((with_reducible show M0 _ _ _ _);refine Sf ?_)
      | ((with_reducible show Hs _ _ _);(first|refine Sd ?_|refine Se ?_)))
  exact q.get):P:=h ⟨k⟩
theorem Y (h:P:=by
  repeat' first
    | ((with_reducible show F9 (Fz _ _ _ _ _ (_::_) _ _ _ _ _));first|refine nx ?_|refine Rk ?_|refine Rj ?_|refine Hu h (λ_ h=>?_) (λ_ h=>?_))
    | ((with_reducible refine opk ?_);conv=>whnf
       first
      | ((with_reducible show F9 _);refine nw ?_)
      | ((with_reducible show Jb _ _ _);refine Jb.mk _ rfl ?_)
      | ((with_reducible show N2 _ _);refine Sc ?_)
      | ((with_reducible show Fk _ _ _ _ _ _);(first|refine Sb h (λ_ h=>?_) | refine Aqj h (λ_ h=>?_)))
      | ((with_reducible show Vz _ _ _);refine Od h (λ_ _ _ _ h=>?_))
      | ((with_reducible show Th _ _ _ _ _);(first|refine Ih h (λ_ _ _ _ h=>?_) | refine Ni h (λ_ _ _ _ h=>?_)))
      | ((with_reducible show M0 _ _ _ _);refine Sf ?_)
      | ((with_reducible show V2 _ _ _ _);refine Aqk ?_)
      | ((with_reducible show N1 _ _ _ _ _ _ _);(first|refine Aql h (λ_ h=>?_) | refine Lo h (λ_ h=>?_) | refine Akt h (λ_ h=>?_)))
      | ((with_reducible show Ti _ _ _);(first|refine Aqm h (λ_ h=>?_) | refine Aqn h (λ_ h=>?_)))
      | ((with_reducible show V1 _ _ _ _ _);refine Jf h (λ_ h=>?_))
      | ((with_reducible show N0 _ _ _ _);(first|refine Xj h (λ_ h=>?_) | refine Afm h (λ_ h=>?_) | refine Aqo h (λ_ h=>?_) | refine Ux h (λ_ h=>?_)))
      | ((with_reducible show Hs _ _ _);(first|refine Sd ?_|refine Se ?_))
      | ((with_reducible show Adn _ _ _);refine Yy h (λ_ h=>?_))
      | ((with_reducible show Adi _ _ _ _);refine Yx h (λ_ h=>?_))
      | ((with_reducible show Adj _ _ _);refine Aec h (λ_ h=>?_))
      | ((with_reducible show Ai4 _ _ _ _);refine ob_shl h (λ_ h=>?_))
      | ((with_reducible show Adk _ _ _ _);refine Ajs h (λ_ h=>?_))
      | ((with_reducible show Adl _ _ _ _);refine Ajt h (λ_ _ _ _ h=>?_))
      | ((with_reducible show Ado _ _);refine Iq h (λh=>?_))
      | ((with_reducible show Ai5 _ _);refine ob_str h (λ_ h=>?_))
      | ((with_reducible show Adp _ _ _ _ _);refine Aps h (λ_ h=>?_))
      | ((with_reducible show Adq _ _ _ _);refine Apt h (λ_ h=>?_)))
    | ((with_reducible show F9 (Fz _ _ _ _ _ [] _ _ _ _ _));refine M6 ?_)
    | ((with_reducible show F9 (wc _ _ _ _ _ _ _ _ _));refine nw ?_)
    | with_reducible refine A9 ?_
    | with_reducible refine Ho ?_
    | with_reducible refine Ajv ?_
    | with_reducible refine Li ?_
    | with_reducible refine M8 ?_
    | with_reducible refine Ic ?_
    | with_reducible refine Ap0 ?_
    | with_reducible refine Ajx ?_
    | with_reducible refine Ajw ?_
    | ((with_reducible refine cnd ?_);first|refine Ia rfl ?_|refine Ajg rfl ?_)
    | ((with_reducible show wc _ _ (.cond _ _ _) _ _ _ _ _ _);first|refine Ei h (λ_ h=>?_) (λ_ h=>?_) | refine Aee ?_|refine Aef ?_)
    | ((with_reducible show N5 _ _ _);refine N5.mk κ ?_)
    | refine nx ?_
    | refine M6 ?_
    | refine Rk ?_
    | refine Rj ?_
    | refine Hu h (λ_ h=>?_) (λ_ h=>?_)
    | exact lpn h
    | exact jnn h
    | replace h:=Cz h
    | replace h:=lpj h
    | refine nw ?_
    | (conv=>whnf
       first
      | ((with_reducible show F9 _);refine nw ?_)
      | ((with_reducible show Jb _ _ _);refine Jb.mk _ rfl ?_)
      | ((with_reducible show N2 _ _);refine Sc ?_)
      | ((with_reducible show Fk _ _ _ _ _ _);(first|refine Sb h (λ_ h=>?_) | refine Aqj h (λ_ h=>?_)))
      | ((with_reducible show Vz _ _ _);refine Od h (λ_ _ _ _ h=>?_))
      | ((with_reducible show Th _ _ _ _ _);(first|refine Ih h (λ_ _ _ _ h=>?_) | refine Ni h (λ_ _ _ _ h=>?_)))
      | ((with_reducible show M0 _ _ _ _);refine Sf ?_)
      | ((with_reducible show V2 _ _ _ _);refine Aqk ?_)
      | ((with_reducible show N1 _ _ _ _ _ _ _);(first|refine Aql h (λ_ h=>?_) | refine Lo h (λ_ h=>?_) | refine Akt h (λ_ h=>?_)))
      | ((with_reducible show Ti _ _ _);(first|refine Aqm h (λ_ h=>?_) | refine Aqn h (λ_ h=>?_)))
      | ((with_reducible show V1 _ _ _ _ _);refine Jf h (λ_ h=>?_))
      | ((with_reducible show N0 _ _ _ _);(first|refine Xj h (λ_ h=>?_) | refine Afm h (λ_ h=>?_) | refine Aqo h (λ_ h=>?_) | refine Ux h (λ_ h=>?_)))
      | ((with_reducible show Hs _ _ _);(first|refine Sd ?_|refine Se ?_))
      | ((with_reducible show Adn _ _ _);refine Yy h (λ_ h=>?_))
      | ((with_reducible show Adi _ _ _ _);refine Yx h (λ_ h=>?_))
      | ((with_reducible show Adj _ _ _);refine Aec h (λ_ h=>?_))
      | ((with_reducible show Ai4 _ _ _ _);refine ob_shl h (λ_ h=>?_))
      | ((with_reducible show Adk _ _ _ _);refine Ajs h (λ_ h=>?_))
      | ((with_reducible show Adl _ _ _ _);refine Ajt h (λ_ _ _ _ h=>?_))
      | ((with_reducible show Ado _ _);refine Iq h (λh=>?_))
      | ((with_reducible show Ai5 _ _);refine ob_str h (λ_ h=>?_))
      | ((with_reducible show Adp _ _ _ _ _);refine Aps h (λ_ h=>?_))
      | ((with_reducible show Adq _ _ _ _);refine Apt h (λ_ h=>?_)))
    | (have h:=Option.some.inj h;subst h;exact rfl)
    | (cases h;(repeat refine⟨rfl,?_⟩);exact trivial)
    | (cases h;done)
):P:=h
section
variable {P:Program} {C:Cfg} {Qn:Nat->Bx->Hp->Prop} {Qe:Nat->Nat->Bx->Hp->Prop} {Qr:Nat->Bx->Hp->Prop} {n:Nat} {e:Bx} {H:Hp} {β:Type} {r:β} {P0 Q:Prop}
variable {t:Bool} {a b:Code} {K:Eff->Nat->Prop} {largs:List AV} {hs:List Bq} {m m':Option β} {S α:Type} {o:Option α} {ra:α->AV} {hs':α->List Bq} {G:α->Prop}
theorem Bh {c:Operand} (h:(bif t then m else m')=some r) (h1:t=true->m=some r->wc P C a Qn Qe Qr n e H) (h2:t=false->m'=some r->wc P C b Qn Qe Qr n e H) (hz:Hd (wc P C (.cond c a b) Qn Qe Qr n e H)->P0:=by exact λq=>Z q.get) (hx:ev e c = .val (.bool t):=by exact rfl):P0:=hz ⟨Ei h h1 h2 hx⟩
theorem Cf {c:Operand} (h:(bif t then m else m')=some r) (h2:t=false->m'=some r->wc P C b Qn Qe Qr n e H) (hz:Hd (wc P C (.cond c a b) Qn Qe Qr n e H)->P0:=by exact λq=>Z q.get) (hx:ev e c = .val (.bool t):=by exact rfl) (h1:t=true->m=some r->wc P C a Qn Qe Qr n e H:=by intro _ h;exact Y):P0:=hz ⟨Ei h h1 h2 hx⟩
theorem Bc {E:Type} {step:S->Option (S⊕E)} {s0:S} {J:E->Option β} (h:(Ak step s0).bind J=some r) (iv:S->List (Nat×AV)) (hv:S->List (Nat×Bq)) (body:∀(s:S) (u:Nat->Value) (K:Nat->Bx->Hp->Prop) (o:S⊕E),step s=some o->(∀x,.inr x=o->J x=some r)->(∀s' n' e' H',.inl s'=o->G3 e' (iv s')->G5 H' (Ci H (hv s')) n n->True->K n' e' H') -> wc P C b K Qe Qr n (Jy (Fh b) e u (iv s)) (Ci H (hv s))) (hz:Hd (wc P C (.loop b) Qn Qe Qr n e H)->P0:=by exact λq=>Z q.get) (hb:∀s,Jz n (iv s) (hv s)=true:=by exact λ_=>rfl) (hs:G3 e (iv s0):=by (repeat refine⟨rfl,?_⟩);exact trivial) (hh:G5 H (Ci H (hv s0)) n n:=by (repeat refine⟨⟨rfl,rfl⟩,?_⟩);exact trivial):P0:=hz ⟨Aqp h iv hv body hb hs hh⟩
theorem Bm {m:α->Option β} {f:FuncId} {args:List AV} (h:o.bind m=some r) [i:OK o G] (k:∀v,m v=some r->K ⟨ra v,[],[]⟩ n) (hz:Hd (Fk P n H f args K)->P0:=by exact λq=>Z q.get) (hG:∀v,G v->A8 P f args (ra v):=by exact λ_ h=>h) (hf:args.all AV.free=true:=by exact rfl):P0:=hz ⟨Sb h k hG hf⟩
theorem B0 {l:List α} {f:α->AV} {ys:List AV} {i:Int} {m:α->Option β} {K:Nat->AV->Prop} (h:(Ag l i).bind m=some r) (k:∀(n:Nat) (x:α),i=n->l[n]? = some x->m x=some r->K n (f x)) (hz:Hd (Vz ys i K)->P0:=by exact λq=>Z q.get) (he:ys=l.map f:=by first|exact rfl|exact Ll _|exact Lm _|exact Jn _):P0:=hz ⟨Apo he h k⟩
theorem Da {m:α->Option β} {f:FuncId} {args:List AV} (l:List Nat) (h:o.bind m=some r) [i:OK o G] (k:∀v,m v=some r->K ⟨ren (Dt n l) (ra v),Fy (Dt n l) 0 hs++Cn (Dt n l) l.length ((hs' v).length-l.length),Fy (Dt n l) 0 (hs' v)⟩ (n+((hs' v).length-l.length))) (hz:Hd (Fk P n H f args K)->P0:=by exact λq=>Z q.get) (hG:∀v,G v->Bo P f largs hs (ra v) (hs' v):=by exact λ_ h=>h) (ha:largs.map (ren (Dt n l))=args:=by exact rfl) (ok:∀v,Nz n l largs hs (ra v) (hs' v)=true:=by exact λ_=>rfl) (hh:Ou H (Fy (Dt n l) 0 hs):=by (repeat refine⟨rfl,?_⟩);exact trivial):P0:=hz ⟨Xi l h k hG ha ok hh⟩
theorem B8 {m:α->Option β} {f:FuncId} {args:List AV} (l:List Nat) (h:o.bind m=some r) [i:OK o G] (hz:Hd (Fk P n H f args K)->P0:=by exact λq=>Z q.get) (hG:∀v,G v->Bo P f largs hs (ra v) (hs' v):=by exact λ_ h=>h) (ha:largs.map (ren (Dt n l))=args:=by exact rfl) (ok:∀v,Nz n l largs hs (ra v) (hs' v)=true:=by exact λ_=>rfl) (hh:Ou H (Fy (Dt n l) 0 hs):=by (repeat refine⟨rfl,?_⟩);exact trivial) (k:∀v,m v=some r->K ⟨ren (Dt n l) (ra v),Fy (Dt n l) 0 hs++Cn (Dt n l) l.length ((hs' v).length-l.length),Fy (Dt n l) 0 (hs' v)⟩ (n+((hs' v).length-l.length)):=by
 intro _ h
 exact Y):P0:=hz ⟨Xi l h k hG ha ok hh⟩
theorem Dn {c:Code} {o:Option S} {m:S->Option β} (h:o.bind m=some r) (iv:S->List (Nat×AV)) (hv:S->List (Nat×Bq)) (k2:∀(s:S) (u:Nat->Value),m s=some r->Qn n (Jy (Fh c) e u (iv s)) (Ci H (hv s))) (hb:∀s,Jz n (iv s) (hv s)=true:=by exact λ_=>rfl) (k1:∀x,o=some x->∀(K:Nat->Bx->Hp->Prop),(∀s n' e' H',s=x->G3 e' (iv s)->G5 H' (Ci H (hv s)) n n->K n' e' H')->(∀y,y=x->m y=some r)->wc P C c K Qe Qr n e H:=by
 intro _ h _ _ _
 exact Y):wc P C c Qn Qe Qr n e H:=Lp h iv hv k1 k2 hb
theorem ZR {id:Nat} {os:List Oper} (k:Q) (h1:Hd (wc P C (.region id os.toArray false) Qn Qe Qr n e H)->P0:=by exact λq=>ZS q.get) (h2:Hd Q->F9 (Fz P C.T C.an C.nl os.toArray os n e H [] λn e H _=>Qn n e H):=by exact λq=>ZO q.get):P0:=h1 ⟨Ho (h2 ⟨k⟩)⟩
end
set_option maxRecDepth 10000
set_option linter.unusedVariables false
theorem A21 {a0 r:List Es} (h:Cd 16 [] a0=some r):A8 prog 249 [Az 2 H7 a0] (Az 2 H7 r):=by
 have h:((Cd 16 [] a0).bind λo=>some o)=some r:=by rw[h];rfl
 refine pw {T:=Cm,an:=(λs=>bif Nat.beq s 5 then .own else .ask),nl:=(λs=>bif Nat.beq s 2 then [(0,2)] else [])} func249 ?_;refine A9 ?_;refine Ho ?_;refine ZO ?_;refine A9 (A9 ?_);refine Wb (λb:Bool=>b=true->a0 = []) (λb=>[(4,Aw b)]) (λ_=>[]) (λ_=>rfl) ?_ ?_
 .intro K hK;refine Aeg 0 ?_;intro v hv;obtain⟨p,c,rfl,hp⟩:=hv 2 (a0.map H7) rfl;refine Ho ?_;refine nx ?_;refine nx ?_;refine M6 ?_;refine hK p.isNone _ _ _ (λe=>?_) ⟨rfl,trivial⟩ trivial;cases p with| none=>simpa using hp rfl| some _=>cases e
 .rintro b _ hb;cases b with
  | true=>have hb:=hb rfl;subst hb;have h:some ([]:List Es)=some r:=(by rw[<-h];rfl);exact Y
  | false=>refine Z ?_;exact Y
theorem A22 {a0:List Bb} {r:List Bb×List Bb} (h:P1 40 a0=some r):Bo prog 103 [Az 3 Ga a0] [] (.arr 1 r.2.length 0 r.2.length) [.rows 69 3 (r.1.map Ga),.rows 69 3 (r.2.map Ga)]:=by
 have h:((Cd 40 [] a0).bind λo=>some (([]:List Bb),o))=some r:=h;refine aw {T:=Cm,an:=(λs=>bif Nat.beq s 5 then .own else bif Nat.beq s 2 then .own else .ask),nl:=(λ_=>[])} false func103 ?_;refine A9 ?_;refine Ho ?_;refine ZO ?_;refine A9 (A9 ?_);refine Wb (λb:Bool=>b=true->a0 = []) (λb=>[(4,Aw b)]) (λ_=>[]) (λ_=>rfl) ?_ ?_
 .intro K hK;refine Aeg 0 ?_;intro v hv;obtain⟨p,c,rfl,hp⟩:=hv 3 (a0.map Ga) rfl;refine Ho ?_;refine nx ?_;refine nx ?_;refine M6 ?_;refine hK p.isNone _ _ _ (λe=>?_) ⟨rfl,trivial⟩ ⟨⟨rfl,rfl⟩,trivial⟩;cases p with| none=>simpa using hp rfl| some _=>cases e
 .rintro b _ hb;cases b with
  | true=>have hb:=hb rfl;subst hb;have h:some (([]:List Bb),([]:List Bb))=some r:=(by rw[<-h];rfl);cases h;refine ZO ?_;exact Y
  | false=>refine Z ?_;refine ZO ?_;refine Lo h (λ_ h=>?_);exact Y
theorem A23 {a0:List Bd} {r:List Bd×List Bd} (h:P1 40 a0=some r):Bo prog 109 [Az 3 F0 a0] [] (.arr 1 r.2.length 0 r.2.length) [.rows 73 3 (r.1.map F0),.rows 73 3 (r.2.map F0)]:=by
 have h:((Cd 40 [] a0).bind λo=>some (([]:List Bd),o))=some r:=h;refine aw {T:=Cm,an:=(λs=>bif Nat.beq s 5 then .own else bif Nat.beq s 2 then .own else .ask),nl:=(λ_=>[])} false func109 ?_;refine A9 ?_;refine Ho ?_;refine ZO ?_;refine A9 (A9 ?_);refine Wb (λb:Bool=>b=true->a0 = []) (λb=>[(4,Aw b)]) (λ_=>[]) (λ_=>rfl) ?_ ?_
 .intro K hK;refine Aeg 0 ?_;intro v hv;obtain⟨p,c,rfl,hp⟩:=hv 3 (a0.map F0) rfl;refine Ho ?_;refine nx ?_;refine nx ?_;refine M6 ?_;refine hK p.isNone _ _ _ (λe=>?_) ⟨rfl,trivial⟩ ⟨⟨rfl,rfl⟩,trivial⟩;cases p with| none=>simpa using hp rfl| some _=>cases e
 .rintro b _ hb;cases b with
  | true=>have hb:=hb rfl;subst hb;have h:some (([]:List Bd),([]:List Bd))=some r:=(by rw[<-h];rfl);cases h;refine ZO ?_;exact Y
  | false=>refine Z ?_;refine ZO ?_;refine Lo h (λ_ h=>?_);exact Y
theorem A24 {a0:List Ah} {r:List Ah×List Ah} (h:P1 32 a0=some r):Bo prog 304 [Az 2 Fv a0] [] (.arr 1 r.2.length 0 r.2.length) [.rows 67 2 (r.1.map Fv),.rows 67 2 (r.2.map Fv)]:=by
 have h:((Cd 32 [] a0).bind λo=>some (([]:List Ah),o))=some r:=h;refine aw {T:=Cm,an:=(λs=>bif Nat.beq s 5 then .own else bif Nat.beq s 2 then .own else .ask),nl:=(λ_=>[])} false func304 ?_;refine A9 ?_;refine Ho ?_;refine ZO ?_;refine A9 (A9 ?_);refine Wb (λb:Bool=>b=true->a0 = []) (λb=>[(4,Aw b)]) (λ_=>[]) (λ_=>rfl) ?_ ?_
 .intro K hK;refine Aeg 0 ?_;intro v hv;obtain⟨p,c,rfl,hp⟩:=hv 2 (a0.map Fv) rfl;refine Ho ?_;refine nx ?_;refine nx ?_;refine M6 ?_;refine hK p.isNone _ _ _ (λe=>?_) ⟨rfl,trivial⟩ ⟨⟨rfl,rfl⟩,trivial⟩;cases p with| none=>simpa using hp rfl| some _=>cases e
 .rintro b _ hb;cases b with
  | true=>have hb:=hb rfl;subst hb;have h:some (([]:List Ah),([]:List Ah))=some r:=(by rw[<-h];rfl);cases h;refine ZO ?_;exact Y
  | false=>refine Z ?_;refine ZO ?_;refine Lo h (λ_ h=>?_);exact Y
end Go.Ab
namespace Go.Ab
open Go Go.Proofs Go.Shelf Go.Proofs.Tryz
set_option maxRecDepth 100000
set_option linter.unusedVariables false
variable {F σ:A7} {ι:Ca} {H:Hp} {w:World}
def A25:Ren:={f:=λx=>match x with|189=>64|125=>122|257=>121|128=>189|129=>190|294=>180|295=>181|296=>182|297=>183|298=>184|299=>185|216=>186|300=>187|301=>188|328=>250|329=>251|330=>252|331=>253|332=>254|215=>139|343=>290|n=>n,t:=λx=>match x with|28=>86|3=>3|46=>150|0=>0|51=>132|53=>131|4=>4|183=>267|182=>266|131=>190|5=>5|9=>9|218=>332|222=>105|228=>375|229=>376|n=>n,g:=λn=>n}
theorem A26:Lays.n189 prog A25:=by
 constructor;all_goals first|kernel_rfl | (intro w;kernel_rfl) | constructor
 all_goals first|kernel_rfl | (intro w;kernel_rfl)
theorem Cr.up {w':World} {x:Nat} (h:Cr σ ι H F w x) (hk:∀(b:Nat) (o:Obj),w.heap[b]? = some o->w'.heap[b]? = some o):Cr σ ι H F w' x:=by
 unfold Cr at h ⊢;cases hx:H x with
 | none=>rw[hx]at h;exact h
 | dead=>trivial
 | cells E cs=>rw[hx]at h;obtain⟨b,C,h1,h2,h3,g,f⟩:=h;exact⟨b,C,h1,h2,h3,hk _ _ g,f⟩
 | rows E sz xs=>
  rw[hx]at h;obtain⟨h0,h1,h2⟩:=h;refine⟨h0,h1,?_⟩;rcases h2 with h2|⟨b,c,C,q,l,k,j,i⟩
  .exact .inl h2
  .exact .inr ⟨b,c,C,q,l,k,hk _ _ j,i⟩
 | map es=>rw[hx]at h;obtain⟨b,M,t,h1,h2,h3,g,f⟩:=h;exact⟨b,M,t,h1,h2,h3,hk _ _ g,f⟩
theorem St.growG {W:World} (s:St σ ι H F W w) (k:Nat) (os:Array Obj):St σ ι H F W (Sort.grow (Sort.ahead w k) os):=by
 have hk:∀(b:Nat) (o:Obj),w.heap[b]? = some o->(Sort.grow (Sort.ahead w k) os).heap[b]? = some o:=by intro b o h;have c:=(Array.getElem?_eq_some_iff.1 h).1;show (w.heap++os)[b]? = _;rw[Array.getElem?_append_left c];exact h
 exact⟨λb o h=>hk b o (s.sto b o h),λb o h=>⟨hk b o (s.fra b o h).1,(s.fra b o h).2⟩,λh=>(s.obj h).up hk,s.inj,s.os,s.tape,s.output,s.glo,Nat.le_trans s.drw (Nat.le_add_right _ _)⟩
theorem Aqq {α:Type} [Inhabited α] (enc:α->Value) (w:World) (b:Nat) (d:Array α) (C:Array Value) (E:TypeId) (h:w.heap[b]? = some (.cells C E (0,0))):Sort.putRow enc w b 0 d=w.setRow b (Sort.putCells enc 0 d C):=by
 have c:(Sort.putRow enc w b 0 d).heap=(w.setRow b (Sort.putCells enc 0 d C)).heap:=by
  apply Array.ext_getElem?;intro i;simp only[Sort.putRow,Sort.mapBlock,World.setRow,Array.getElem?_modify];split
  .rename_i e;subst e;rw[h];simp[Sort.onCells]
  .rfl
 unfold Sort.putRow Sort.mapBlock World.setRow at c ⊢;simp only at c;rw[c]
theorem A27 {b r:List Int} (h:Apl b=some r) (M:b≠[]):Bo prog 64 [.arr 0 b.length 0 b.length] [.rows 3 1 (map (O .i64) b)] (.tup []) [.rows 3 1 (map (O .i64) r)]:=by
 cases h
 .skip;refine⟨⟨_,func64,κ,κ⟩,λσ F W w ι vs s J=>?_⟩;obtain⟨v,rfl,hv⟩:=Uw J;have hh:hp [.rows 3 1 (map (O .i64) b)] 0 = .rows 3 1 (map (O .i64) b):=rfl;have l:=hv.arr_inv hh ψ;have hor:=s.obj 0;unfold Cr at hor;rw[hh]at hor;obtain⟨_,G,hor⟩:=hor;rw[length_map]at G;rcases hor with⟨_,E⟩|⟨g,q,D,hg,g1,g2,g3,g4,g5,g6⟩
  .exact (M (by simpa using E)).elim
  .rw[length_map]at g5;unfold Hk at l;rw[hg]at l;simp only[Nat.zero_mul,Nat.zero_add,Nat.sub_zero]at l;obtain⟨ht,B⟩:=l;subst B;have k:∀(j:Nat) (x:Int),b[j]? = some x->D[j]? = some (Value.int .i64 x):=(by intro j x hx;obtain⟨Y,q1,q2,Z⟩:=g6;have A:(map (O .i64) b)[j]? = some (O .i64 x):=(by rw[getElem?_map,hx];rfl);have N:j<(map (O .i64) b).length:=(List.getElem?_eq_some_iff.1 A).1;have V:=Z j 0 N ω;have U:=(q2 j _ 0 _ A rfl).1;have:Y j 0=Value.int .i64 x:=(by generalize Y j 0=z at U;cases U;rfl);rw[this]at V;simpa using V);have hH:Sort.Holds (Value.int .i64) w g 0 b.toArray:=by
    intro j hj;have hj':j<b.length:=(by simpa using hj);have hx:b[j]? = some b[j]:=getElem?_eq_getElem hj';have hD:=k j _ hx;have e1:b.toArray[j]! = b[j]:=(by rw[getElem!_pos b.toArray j hj];simp);rw[e1];refine⟨?_,?_⟩
    .rw[Nat.zero_add,Ki g3];exact hD
    .simp[World.frozen?,g3]
   have call:=Any.slices_Sort_int A26 g 0 q b w hH (Array.getElem?_eq_some_iff.1 g3).1 ω;refine call.mono ?_;rintro e w' ⟨rfl,n,os,rfl⟩;generalize hr:b.mergeSort (λx y=>decide (x<=y))=r;have I:r.length=b.length:=(by rw[<-hr];exact length_mergeSort b);have L:(Sort.putCells (Value.int .i64) 0 r.toArray D).size=q*1:=(by unfold Sort.putCells;rw[Array.size_mapIdx];exact g4);obtain⟨s',le⟩:=s.setRows 0 3 1 _ (map (O .i64) r) hh g q hg (by simp[I]) (Sort.putCells (Value.int .i64) 0 r.toArray D) L (by
    refine⟨λi _=>match r[i]? with|some z=>.int .i64 z|none=>.bool false,?_,?_,?_⟩
    .intro i x hx;rw[getElem?_map]at hx;obtain⟨z,X,rfl⟩:=Option.map_eq_some_iff.1 hx;rfl
    .intro i x j c hx f;rw[getElem?_map]at hx;obtain⟨z,X,rfl⟩:=Option.map_eq_some_iff.1 hx;have f:([O .i64 z]:List AV)[j]? = some c:=f
     match j with| 0=>cases f;simp only[X];exact⟨.val _,rfl⟩| j+1=>simp at f
    .intro i j hi hj;have R:j=0:=ω;subst R;have u:i<r.length:=(by simpa using hi);have S:i<D.size:=(by rw[g4];omega);simp only[Nat.mul_one,Nat.add_zero,getElem?_eq_getElem u];unfold Sort.putCells;rw[Array.getElem?_mapIdx,Array.getElem?_eq_getElem S];simp only[Option.map_some,Nat.zero_le,true_and,Nat.zero_add,size_toArray,u,if_true,Nat.sub_zero];congr 2;rw[getElem!_pos r.toArray i (by simpa using u)];simp)
   have eH:Ay (hp [.rows 3 1 (map (O .i64) b)]) 0 (.rows 3 1 (map (O .i64) r))=hp [.rows 3 1 (map (O .i64) r)]:=by
    funext i
    match i with| 0=>rfl| i+1=>rfl
   rw[eH]at le s';have eW:Sort.grow (Sort.putRow (Value.int .i64) (Sort.ahead w n) g 0 r.toArray) os=Sort.grow (Sort.ahead (w.setRow g (Sort.putCells (Value.int .i64) 0 r.toArray D)) n) os:=(by rw[Aqq (Value.int .i64) (Sort.ahead w n) g r.toArray D 3 g3];rfl);rw[eW];exact⟨_,σ,ι,rfl,le,s'.growG n os,.tup _ _ rfl (λi c v h1 _=>by cases h1)⟩
end Go.Ab
namespace Go.Ab
open Go Go.Proofs Go.Shelf Go.Sort Go.Proofs.Tryz
set_option maxRecDepth 100000
set_option linter.unusedVariables false
variable {σ:A7} {g:Nat} {α:Type} {v:Value} {r:List α} {eA:α->AV} {cmp:α->α->Option Int}
theorem A28 (h:Fj v=true):v.oneCell'=true:=by cases v <;> first|rfl|cases h
theorem A29 {ι:Ca} {H:Hp} {f:FuncId} (h:Conc σ ι H (.fn f []) v):v = .func (.func f) #[] #[]:=by cases h with| cc h=>cases h| fn _ _ vs b _=>have:vs = #[]:=Array.size_eq_zero_iff.1 (by simpa using b);rw[this]
def Aqr (σ:A7) (eA:α->AV) (sz:Nat) (S:List α) (x:α) (c:List Value):Prop := x∈S/\(eA x).cells.length=sz/\c.length=sz/\∀(j:Nat) (a:AV) (v:Value),(eA x).cells[j]? = some a->c[j]? = some v->CC σ a v/\Fj v=true
abbrev Pd {α:Type} (σ:A7) (eA:α->AV) (sz:Nat) (S:List α):Type:={p:α×List Value // Aqr σ eA sz S p.1 p.2}
theorem A3a {W w':World} (g:∀b o,W.heap[b]? = some o->σ b=some o) (s:St σ ι0 H0 (λ_=>none) W w'):∃q f,w'=grow (W.drewN q) f:=by
 have hk:∀b o,W.heap[b]? = some o->w'.heap[b]? = some o:=λb o h=>s.sto b o (g b o h);have j:W.heap.size<=w'.heap.size:=by
  rcases Nat.eq_zero_or_pos W.heap.size with h|h
  .omega
  .have:=hk (W.heap.size-1) _ (Array.getElem?_eq_getElem ω);have:=(Array.getElem?_eq_some_iff.1 this).1;omega
 refine⟨w'.drawn-W.drawn,w'.heap.extract W.heap.size w'.heap.size,?_⟩;have c:w'.heap=W.heap++w'.heap.extract W.heap.size w'.heap.size:=by
  apply Array.ext_getElem?;intro i;by_cases hi:i<W.heap.size
  .rw[Array.getElem?_append_left hi,Array.getElem?_eq_getElem hi];exact hk i _ (Array.getElem?_eq_getElem hi)
  .rw[Array.getElem?_append_right ω];by_cases hj:i<w'.heap.size
   .rw[Array.getElem?_eq_getElem hj,Array.getElem?_eq_getElem ζ];simp only[Array.getElem_extract];congr 2;omega
   .rw[Array.getElem?_eq_none ω,Array.getElem?_eq_none ζ]
 have h1:=s.os;have h2:=s.tape;have h3:=s.output;have k:=s.drw;cases w' with| mk heap tape drawn os output=>simp only at h1 h2 h3 k c;unfold grow World.drewN;simp only[World.mk.injEq];exact⟨c,h2,ω,h1,h3⟩
theorem Aqs {ρ:Ren} {E:TypeId} {sz f:Nat} (L:SlLaysF0.n6 prog ρ) (hf:ρ.f 6=f) (a6:Adh prog f) (aE:∀w,(isAgg (ρ.t 24)).run prog w = .ok true w) (zE:∀w,(Go.sizeOf (ρ.t 24)).run prog w = .ok sz w) (eg:∀args w,(callFunc g args).run prog w = .ok (.enter g args) w) (ax:∀x y n,cmp x y=some n->A8 prog g [eA x,eA y] (O .i64 n)) (az:∀x,∃cs,eA x = .agg cs) {l:List α} (h:Pz cmp l=some r) (aj:l≠[]) : Bo prog f [.arr 0 l.length 0 l.length,.fn g []] [.rows E sz (l.map eA)] (.tup []) [.rows E sz (r.map eA)]:=by
 obtain⟨cf,law,bb,G,A⟩:=A2o h;refine⟨a6,λσ F W w ι vs s av=>?_⟩;obtain⟨v,v2,rfl,hv,b5⟩:=Aks av;obtain rfl:=A29 b5;have hh:hp [.rows E sz (l.map eA)] 0 = .rows E sz (l.map eA):=rfl;have N:=hv.arr_inv hh ψ;have hor:=s.obj 0;unfold Cr at hor;rw[hh]at hor;obtain⟨S,am,hor⟩:=hor;rw[length_map]at am;rcases hor with⟨_,ah⟩|⟨b,U,D,hb,g1,g2,g3,g4,g5,g6⟩
 .exact (aj (by simpa using ah)).elim
 rw[length_map]at g5;unfold Hk at N;rw[hb]at N;simp only[Nat.zero_mul,Nat.sub_zero]at N;obtain⟨ht,aa⟩:=N;subst aa;obtain⟨gg,q1,q2,q3⟩:=g6;have a8:∀(i:Nat) (x:α),l[i]? = some x->(l.map eA)[i]? = some (eA x):=λi x hx=>by rw[getElem?_map,hx];rfl
 have Z:∀(i:Nat) (hi:i<l.length),Aqr σ eA sz l l[i] ((range sz).map (gg i)):=by intro i hi;have hx:l[i]? = some l[i]:=getElem?_eq_getElem hi;refine⟨getElem_mem hi,q1 i _ (a8 i _ hx),ψ,λj a v ha hv=>?_⟩;rw[getElem?_map,Option.map_eq_some_iff]at hv;obtain⟨k,hk,rfl⟩:=hv;have b9:k=j:=(by have:=(List.getElem?_eq_some_iff.1 hk).2;simpa using this.symm);subst b9;exact q2 i _ k a (a8 i _ hx) ha
 have hpos:0<l.length:=length_pos_iff.2 aj;let d:Array (Pd σ eA sz l):=Array.ofFn λi:Fin l.length=>⟨(l[i.1],(range sz).map (gg i.1)),Z i.1 i.2⟩
 haveI:Inhabited (Pd σ eA sz l):=⟨⟨(l[0],(range sz).map (gg 0)),Z 0 hpos⟩⟩;have B:d.size=l.length:=by simp[d]
 have ba:∀i (hi:i<l.length),d[i]! = ⟨(l[i],(range sz).map (gg i)),Z i hi⟩:=λi hi=>by rw[getElem!_pos d i (by rw[B];exact hi)];simp[d]
 let enc:Pd σ eA sz l->List Value:=λp=>p.1.2
 have hk:∀x:Pd σ eA sz l,(enc x).length=sz:=λx=>x.2.2.2.1;have h1:∀x:Pd σ eA sz l,∀v∈enc x,v.oneCell'=true:=by intro x v hv;obtain⟨j,hj⟩:=getElem?_of_mem hv;have q:=(List.getElem?_eq_some_iff.1 hj).1;rw[hk x]at q;have ha:(eA x.1.1).cells[j]? = some ((eA x.1.1).cells[j]'(by rw[x.2.2.1];exact q)):=getElem?_eq_getElem _;exact A28 (x.2.2.2.2 j _ v ha hj).2
 let a7:Pd σ eA sz l->Pd σ eA sz l->Int:=λx y=>cf x.1.1 y.1.1
 have hO:SWO (ltOf a7):=by
  constructor
  .intro x;exact decide_eq_false (law.irr x.1.1)
  .intro x y z X V;exact decide_eq_true (law.trs _ _ _ (of_decide_eq_true X) (of_decide_eq_true V))
  .intro x y z X V;exact decide_eq_false (law.ntr _ _ _ (of_decide_eq_false X) (of_decide_eq_false V))
 have hH:HoldsK enc sz w b 0 d:=by
  intro t Y;rw[size_flatK,B]at Y;have ac:t / sz<l.length:=Nat.div_lt_of_lt_mul (by rw[Nat.mul_comm];exact Y);have ab:t % sz<sz:=Nat.mod_lt _ S;rw[get_flatK _ _ _ _ (by rw[B];exact Y),ba _ ac];have e:=q3 (t / sz) (t % sz) (by rw[length_map];exact ac) ab;rw[show t / sz*sz+t % sz=t by rw[Nat.mul_comm];exact Nat.div_add_mod t sz]at e;refine⟨?_,?_⟩
  .rw[Nat.zero_add,Ki g3,e];show some _=some (id _);congr 1;show gg _ _=((range sz).map (gg (t / sz)))[t % sz]!;rw[getElem!_pos _ _ (by simpa using ab)];simp
  .simp[World.frozen?,g3]
 have hblk:b<w.heap.size:=(Array.getElem?_eq_some_iff.1 g3).1;have hC:CmpLays prog g #[] enc sz a7 b 0 d.size w:=by
  intro m os dk hs x y;generalize b4:sortWorldK enc sz w b 0 m dk os=R;have ap:∀b' o,σ b'=some o->R.heap[b']? = some o:=(by intro b' o ho;have ai:b≠b':=(by rintro rfl;rw[g1]at ho;cases ho);have e:=s.sto b' o ho;have q:=(Array.getElem?_eq_some_iff.1 e).1;rw[<-b4];show ((w.heap.modify b _)++os)[b']? = _;rw[Array.getElem?_append_left (by simpa using q),Array.getElem?_modify,if_neg ai];exact e);have ar:=bb x.1.1 x.2.1 y.1.1 y.2.1;have hp:=ax _ _ _ ar;have s1:St ((λb=>R.heap[b]?)) ι0 H0 (λ_=>none) R R:=⟨λ_ _ e=>e,(λ_ _ e=>by cases e),λ_=>rfl,(λ_ _ _ hl=>by cases hl),rfl,rfl,rfl,s.glo.mono ap,Nat.le_refl _⟩;have ay:∀z:Pd σ eA sz l,Conc ((λb=>R.heap[b]?)) ι0 H0 (eA z.1.1) (.agg (enc z).toArray):=by
   intro z;obtain⟨cs,au⟩:=az z.1.1;have I:(eA z.1.1).cells=cs:=(by rw[au];rfl);rw[au];refine .cc (.agg _ _ ?_ λi c v hc hv=>?_)
   .rw[<-I,z.2.2.1];simp[hk z]
   .rw[<-I]at hc;exact (z.2.2.2.2 i c v hc (by simpa using hv)).1.mono ap
  refine (hp.2 ((λb=>R.heap[b]?)) (λ_=>none) R R _ s1 ⟨rfl,?_⟩).mono ?_
  .intro i a v ha hv
   match i,ha,hv with| 0,ha,hv=>cases ha;cases hv;exact ay x| 1,ha,hv=>cases ha;cases hv;exact ay y| n+2,ha,hv=>simp at ha
  .rintro e w' ⟨v,σ',rfl,ao,b6,hc⟩;refine⟨?_,?_⟩
   .cases hc with| cc h=>cases h;rfl
   .exact A3a (σ:=σ') (λb o ho=>ao b o ho) b6
 have call:=AnyQ.slices_SortFunc L sz aE zE enc hk h1 a7 hO g #[] b 0 U d w eg hC hH hblk (by rw[B];omega);rw[hf,B]at call;refine call.mono ?_;rintro e w' ⟨rfl,u,n,os,b8,b7,rfl⟩;obtain⟨p1,p2,p3⟩:=b8;have M:u.size=l.length:=by rw[p1,B]
 have J:∀(a:Array (Pd σ eA sz l)),a.size=l.length->(a.extract 0 l.length).toList=a.toList:=λa ha=>by rw[<-ha];simp
 rw[J u M,J d B]at p3;have ak:d.toList.map (λp=>p.1.1)=l:=by
  apply ext_getElem
  .simp[B]
  .intro i bg bf;simp[d]
 have ag:(u.toList.map λp=>p.1.1).Perm l:=by have:=p3.map λp:Pd σ eA sz l=>p.1.1;rwa [ak]at this
 have hR:(u.toList.map λp=>p.1.1).Pairwise λx y=>cf x y<0\/cf y x<0:=by refine ((ag.trans G.symm).pairwise_iff (λ{x y} h=>h.symm)).2 ?_;exact A.imp λh=>.inl h
 have hS:(u.toList.map λp=>p.1.1).Pairwise λx y=>cf x y<0:=by
  rw[pairwise_iff_getElem]at hR ⊢;intro i j hi hj aq;simp only[length_map,Array.length_toList]at hi hj;rcases hR i j (by simpa using hi) (by simpa using hj) aq with h|h
  .exact h
  .have:=b7 i j (Nat.zero_le _) aq ω;rw[getElem!_pos u i hi,getElem!_pos u j hj]at this;have:=of_decide_eq_false this;simp only[getElem_map,Array.getElem_toList]at h;exact (this h).elim
 have af:u.toList.map (λp=>p.1.1)=r:=by refine Perm.eq_of_pairwise (le:=λx y=>cf x y<0) (λx y _ _ h1 h2=>(law.irr x (law.trs _ _ _ h1 h2)).elim) hS A (ag.trans G.symm)
 have ae:r.length=l.length:=G.length_eq;have be:(flatK enc sz u).size=l.length*sz:=by rw[size_flatK,M]
 have b3:(Sort.putCells id 0 (flatK enc sz u) D).size=U*sz:=by unfold Sort.putCells;rw[Array.size_mapIdx];exact g4
 have ad:∀(i:Nat) (x:α),r[i]? = some x->i<u.size/\(u[i]!).1.1=x:=by intro i x hx;rw[<-af,getElem?_map,Option.map_eq_some_iff]at hx;obtain⟨p,hp,rfl⟩:=hx;have q:=(List.getElem?_eq_some_iff.1 hp).1;simp only[Array.length_toList]at q;refine⟨q,?_⟩;rw[getElem!_pos u i q];have:=(List.getElem?_eq_some_iff.1 hp).2;simp only[Array.getElem_toList]at this;rw[this]
 obtain⟨s',le⟩:=s.setRows 0 E sz _ (r.map eA) hh b U hb (by simp[ae]) (Sort.putCells id 0 (flatK enc sz u) D) b3 (by
  refine⟨λi j=>(enc u[i]!)[j]!,?_,?_,?_⟩
  .intro i x hx;rw[getElem?_map]at hx;obtain⟨z,hz,rfl⟩:=Option.map_eq_some_iff.1 hx;obtain⟨e1,e2⟩:=ad i z hz;rw[<-e2];exact (u[i]!).2.2.1
  .intro i x j c hx a1;rw[getElem?_map]at hx;obtain⟨z,hz,rfl⟩:=Option.map_eq_some_iff.1 hx;obtain⟨e1,e2⟩:=ad i z hz;rw[<-e2]at a1;have q:=(List.getElem?_eq_some_iff.1 a1).1;rw[(u[i]!).2.2.1,<-(u[i]!).2.2.2.1]at q;have hg:(u[i]!).1.2[j]? = some ((enc u[i]!)[j]!):=(by rw[getElem?_eq_getElem q,getElem!_pos (enc u[i]!) j q]);exact (u[i]!).2.2.2.2 j c _ a1 hg
  .intro i j hi hj;rw[length_map,ae]at hi;have q:i*sz+j<l.length*sz:=(by have:=Nat.mul_le_mul_right sz (show i+1<=l.length from hi);rw[Nat.add_mul,Nat.one_mul]at this;omega);have hD:i*sz+j<D.size:=(by rw[g4];exact Nat.lt_of_lt_of_le q (Nat.mul_le_mul_right sz g5));unfold Sort.putCells;rw[Array.getElem?_mapIdx,Array.getElem?_eq_getElem hD];simp only[Option.map_some,Nat.zero_le,true_and,Nat.zero_add,be,q,if_true,Nat.sub_zero];congr 1;show id ((flatK enc sz u)[i*sz+j]!)=_;rw[get_flatK _ _ _ _ (by rw[M];exact q)];have e1:(i*sz+j) / sz=i:=(by rw[Nat.mul_comm,Nat.mul_add_div S,Nat.div_eq_of_lt hj,Nat.add_zero]);have e2:(i*sz+j) % sz=j:=(by rw[Nat.mul_comm,Nat.mul_add_mod,Nat.mod_eq_of_lt hj]);rw[e1,e2];rfl);have eH:Ay (hp [.rows E sz (l.map eA)]) 0 (.rows E sz (r.map eA))=hp [.rows E sz (r.map eA)]:=by
  funext i
  match i with| 0=>rfl| i+1=>rfl
 rw[eH]at le s';have eW:sortWorldK enc sz w b 0 n u os=Sort.grow (Sort.ahead (w.setRow b (Sort.putCells id 0 (flatK enc sz u) D)) n) os:=by unfold sortWorldK putRowK;rw[Aqq id (Sort.ahead w n) b (flatK enc sz u) D E g3];rfl
 rw[eW];exact⟨_,σ,ι,rfl,le,s'.growG n os,.tup _ _ rfl (λi c v h1 _=>by cases h1)⟩
def A3b:Ren:={f:=λx=>match x with|6=>115|15=>122|14=>172|28=>189|29=>190|20=>240|21=>241|22=>242|23=>243|24=>244|25=>245|26=>246|27=>247|46=>287|47=>251|48=>252|49=>288|50=>289|57=>315|n=>n,t:=λx=>match x with|22=>28|24=>82|25=>192|3=>3|39=>150|0=>0|53=>132|55=>131|4=>4|46=>267|45=>266|50=>190|5=>5|9=>9|66=>332|70=>105|76=>375|77=>376|n=>n,g:=λn=>n}
theorem A3c:SlLaysF0.n6 prog A3b:=by
 constructor
 case f6=>exact Exists.intro "slices.SortFunc[[]amortcost/api.Term,amortcost/api.Term]" ⟨κ,κ⟩
 case f14=>exact Exists.intro "slices.pdqsortCmpFunc[amortcost/api.Term]" ⟨κ,κ⟩
 case f20=>exact Exists.intro "slices.insertionSortCmpFunc[amortcost/api.Term]" ⟨κ,κ⟩
 case f21=>exact Exists.intro "slices.heapSortCmpFunc[amortcost/api.Term]" ⟨κ,κ⟩
 case f22=>exact Exists.intro "slices.breakPatternsCmpFunc[amortcost/api.Term]" ⟨κ,κ⟩
 case f23=>exact Exists.intro "slices.choosePivotCmpFunc[amortcost/api.Term]" ⟨κ,κ⟩
 case f24=>exact Exists.intro "slices.reverseRangeCmpFunc[amortcost/api.Term]" ⟨κ,κ⟩
 case f25=>exact Exists.intro "slices.partialInsertionSortCmpFunc[amortcost/api.Term]" ⟨κ,κ⟩
 case f26=>exact Exists.intro "slices.partitionEqualCmpFunc[amortcost/api.Term]" ⟨κ,κ⟩
 case f27=>exact Exists.intro "slices.partitionCmpFunc[amortcost/api.Term]" ⟨κ,κ⟩
 case f46=>exact Exists.intro "slices.siftDownCmpFunc[amortcost/api.Term]" ⟨κ,κ⟩
 case f49=>exact Exists.intro "slices.medianAdjacentCmpFunc[amortcost/api.Term]" ⟨κ,κ⟩
 case f50=>exact Exists.intro "slices.medianCmpFunc[amortcost/api.Term]" ⟨κ,κ⟩
 case f57=>exact Exists.intro "slices.order2CmpFunc[amortcost/api.Term]" ⟨κ,κ⟩
 all_goals first|kernel_rfl | (intro w;kernel_rfl)
theorem A3d (j:∀args w,(callFunc g args).run prog w = .ok (.enter g args) w) (b:∀x y n,cmp x y=some n->A8 prog g [eA x,eA y] (O .i64 n)) (c:∀x,∃cs,eA x = .agg cs) {f:List α} (h:Pz cmp f=some r) (i:f≠[]) : Bo prog 115 [.arr 0 f.length 0 f.length,.fn g []] [.rows 82 5 (f.map eA)] (.tup []) [.rows 82 5 (r.map eA)] := Aqs A3c rfl ⟨_,func115,κ,κ⟩ (by intro w;kernel_rfl) (by intro w;kernel_rfl) j b c h i
def A3e:Ren:={f:=λx=>match x with|6=>281|15=>122|14=>308|28=>189|29=>190|20=>317|21=>318|22=>319|23=>320|24=>321|25=>322|26=>323|27=>324|46=>329|47=>251|48=>252|49=>330|50=>331|57=>334|n=>n,t:=λx=>match x with|22=>176|24=>180|25=>370|3=>3|39=>150|0=>0|53=>132|55=>131|4=>4|46=>267|45=>266|50=>190|5=>5|9=>9|66=>332|70=>105|76=>375|77=>376|n=>n,g:=λn=>n}
theorem A3f:SlLaysF0.n6 prog A3e:=by
 constructor
 case f6=>exact Exists.intro "slices.SortFunc[[]amortcost/api.Weighted,amortcost/api.Weighted]" ⟨κ,κ⟩
 case f14=>exact Exists.intro "slices.pdqsortCmpFunc[amortcost/api.Weighted]" ⟨κ,κ⟩
 case f20=>exact Exists.intro "slices.insertionSortCmpFunc[amortcost/api.Weighted]" ⟨κ,κ⟩
 case f21=>exact Exists.intro "slices.heapSortCmpFunc[amortcost/api.Weighted]" ⟨κ,κ⟩
 case f22=>exact Exists.intro "slices.breakPatternsCmpFunc[amortcost/api.Weighted]" ⟨κ,κ⟩
 case f23=>exact Exists.intro "slices.choosePivotCmpFunc[amortcost/api.Weighted]" ⟨κ,κ⟩
 case f24=>exact Exists.intro "slices.reverseRangeCmpFunc[amortcost/api.Weighted]" ⟨κ,κ⟩
 case f25=>exact Exists.intro "slices.partialInsertionSortCmpFunc[amortcost/api.Weighted]" ⟨κ,κ⟩
 case f26=>exact Exists.intro "slices.partitionEqualCmpFunc[amortcost/api.Weighted]" ⟨κ,κ⟩
 case f27=>exact Exists.intro "slices.partitionCmpFunc[amortcost/api.Weighted]" ⟨κ,κ⟩
 case f46=>exact Exists.intro "slices.siftDownCmpFunc[amortcost/api.Weighted]" ⟨κ,κ⟩
 case f49=>exact Exists.intro "slices.medianAdjacentCmpFunc[amortcost/api.Weighted]" ⟨κ,κ⟩
 case f50=>exact Exists.intro "slices.medianCmpFunc[amortcost/api.Weighted]" ⟨κ,κ⟩
 case f57=>exact Exists.intro "slices.order2CmpFunc[amortcost/api.Weighted]" ⟨κ,κ⟩
 all_goals first|kernel_rfl | (intro w;kernel_rfl)
theorem A3g (j:∀args w,(callFunc g args).run prog w = .ok (.enter g args) w) (b:∀x y n,cmp x y=some n->A8 prog g [eA x,eA y] (O .i64 n)) (c:∀x,∃cs,eA x = .agg cs) {f:List α} (h:Pz cmp f=some r) (i:f≠[]) : Bo prog 281 [.arr 0 f.length 0 f.length,.fn g []] [.rows 180 5 (f.map eA)] (.tup []) [.rows 180 5 (r.map eA)] := Aqs A3f rfl ⟨_,func281,κ,κ⟩ (by intro w;kernel_rfl) (by intro w;kernel_rfl) j b c h i
end Go.Ab
namespace Go.Ab
open Go Go.Proofs Go.Shelf Go.Proofs.Tryz
set_option maxRecDepth 100000
set_option linter.unusedVariables false
variable {n:Int} {α:Type} {r:List α} {eA:α->AV}
theorem Add {σ:A7} {ι:Ca} {H:Hp} {u v:Value} (h:Conc σ ι H (.val u) v):v=u:=by cases h with| cc h=>cases h;rfl
theorem Afo {ρ:Ren} {E:TypeId} {sz f:Nat} (L:Lays8.n4 prog ρ) (hf:ρ.f 4=f) (g:Adh prog f) (l:TypeInfo) (z:Value) (G:prog.info? (ρ.t 25)=some l) (D:l.zero=some z) (U:ρ.t 25=E) (R:l.size=sz) (B:z.cells.size=sz) (q:0<sz) (I:l.bytes<=1000) (h:M9 n=some r):Bo prog f [.val (.slice none 0 0),O .i64 n] [] (.arr 0 r.length 0 r.length) [.rows E sz (r.map eA)]:=by
 have S:r = []/\0<=n/\n<=1000000:=by
  unfold M9 at h;by_cases h1:0<=n
  .by_cases h2:n<=1000000
   .rw[decide_eq_true h1,decide_eq_true h2]at h;have h:some ([]:List α)=some r:=h;cases h;exact⟨rfl,h1,h2⟩
   .rw[decide_eq_false h2,Bool.and_false]at h;cases h
  .rw[decide_eq_false h1,Bool.false_and]at h;cases h
 obtain⟨rfl,Z,Y⟩:=S;obtain⟨m,rfl⟩:∃m:Nat,n=m:=⟨n.toNat,ω⟩;refine⟨g,λσ F W w ι vs s y=>?_⟩;obtain⟨v,u,rfl,hv,hu⟩:=Aks y;obtain rfl:=Add hv;obtain rfl:=Add hu;have M:hp [] 0 = .none:=rfl;have N:Ay (hp []) 0 (.rows E sz [])=hp [.rows E sz []]:=by
  funext i
  match i with| 0=>rfl| i+1=>rfl
 by_cases h0:m=0
 .subst h0;have call:=Any8.slices_Grow_room L none 0 0 0 w (Nat.le_refl _) δ δ δ;rw[hf]at call;refine call.mono ?_;rintro e w' ⟨rfl,rfl⟩;obtain⟨s',le⟩:=s.newNil 0 M E sz q;rw[N]at s' le;refine⟨_,σ,_,rfl,le,s',.arr 0 0 0 0 _ (by intro e;cases e) (λX A xs e=>?_) rfl⟩;cases e;refine⟨Nat.le_refl _,λ_=>?_⟩;unfold Hk;rw[Ce];exact⟨rfl,rfl,rfl⟩
 .have hb:(0+m)*l.bytes<=140737488355328:=(by have:=Nat.mul_le_mul (show 0+m<=1000000 by omega) I;omega);have call:=Any8.slices_Grow_grow L l z G D ω none 0 0 m [] w (Nat.le_refl _) ω hb ω ψ (λ_=>rfl) (λa h=>by cases h);rw[hf,U]at call;refine call.mono ?_;rintro e w' ⟨rfl,rfl⟩;have hge:=Ac7 w (0+m) 0 E;generalize grownCap w (0+m) 0 E=cap at hge;have b:∀k,(Builtin.zeroCells z.cells k).size=k*sz:=(by intro k;simp[Builtin.zeroCells,B]);generalize V:(([]:List Value).toArray++Builtin.zeroCells z.cells (0+m-0)++Builtin.zeroCells z.cells (cap-(0+m)))=C;have J:C.size=cap*sz:=(by rw[<-V,Array.size_append,Array.size_append,b,b];simp only[size_toArray,length_nil,Nat.zero_add,Nat.sub_zero,<-Nat.add_mul];congr 1;omega);obtain⟨s',le⟩:=(s.drew (w.drawn+1)).newRows 0 E sz [] cap C (.inl M) q ψ ψ J ⟨λ_ _=>.bool false,(by intro i x h;simp at h),(by intro i x j c h;simp at h),(by intro i j h;simp at h)⟩;rw[N]at s' le;refine⟨_,σ,_,rfl,le,s',.arr 0 0 0 0 _ (by intro e;cases e) (λX A xs e=>?_) rfl⟩;cases e;refine⟨Nat.le_refl _,λ_=>?_⟩;unfold Hk;rw[Ce];exact⟨Nat.zero_le _,ψ⟩
def A3h:Ren:={f:=λx=>match x with|4=>161|n=>n,t:=λx=>match x with|22=>75|25=>69|3=>3|4=>4|9=>9|20=>20|0=>0|n=>n,g:=λn=>n}
theorem A3i:Lays8.n4 prog A3h:=by
 constructor
 case f4=>exact Exists.intro "slices.Grow[[]amortcost/api.Factor,amortcost/api.Factor]" ⟨κ,κ⟩
 all_goals first|kernel_rfl | (intro w;kernel_rfl)
theorem A3j (h:M9 n=some r):Bo prog 161 [.val (.slice none 0 0),O .i64 n] [] (.arr 0 r.length 0 r.length) [.rows 69 3 (r.map eA)] := Afo A3i rfl ⟨_,func161,κ,κ⟩ Tryz.t69 (Tryz.t69.zero.getD .nilFunc) κ κ rfl κ κ δ (of_decide_eq_true κ) h
def A3k:Ren:={f:=λx=>match x with|4=>162|n=>n,t:=λx=>match x with|22=>74|25=>73|3=>3|4=>4|9=>9|20=>20|0=>0|n=>n,g:=λn=>n}
theorem A3l:Lays8.n4 prog A3k:=by
 constructor
 case f4=>exact Exists.intro "slices.Grow[[]amortcost/api.Atom,amortcost/api.Atom]" ⟨κ,κ⟩
 all_goals first|kernel_rfl | (intro w;kernel_rfl)
theorem A3m (h:M9 n=some r):Bo prog 162 [.val (.slice none 0 0),O .i64 n] [] (.arr 0 r.length 0 r.length) [.rows 73 3 (r.map eA)] := Afo A3l rfl ⟨_,func162,κ,κ⟩ Tryz.t73 (Tryz.t73.zero.getD .nilFunc) κ κ rfl κ κ δ (of_decide_eq_true κ) h
def A3n:Ren:={f:=λx=>match x with|4=>309|n=>n,t:=λx=>match x with|22=>176|25=>180|3=>3|4=>4|9=>9|20=>20|0=>0|n=>n,g:=λn=>n}
theorem A3o:Lays8.n4 prog A3n:=by
 constructor
 case f4=>exact Exists.intro "slices.Grow[[]amortcost/api.Weighted,amortcost/api.Weighted]" ⟨κ,κ⟩
 all_goals first|kernel_rfl | (intro w;kernel_rfl)
theorem A3p (h:M9 n=some r):Bo prog 309 [.val (.slice none 0 0),O .i64 n] [] (.arr 0 r.length 0 r.length) [.rows 180 5 (r.map eA)] := Afo A3o rfl ⟨_,func309,κ,κ⟩ Tryz.t180 (Tryz.t180.zero.getD .nilFunc) κ κ rfl κ κ δ (of_decide_eq_true κ) h
def A3q:Ren:={f:=λx=>match x with|4=>316|n=>n,t:=λx=>match x with|22=>65|25=>67|3=>3|4=>4|9=>9|20=>20|0=>0|n=>n,g:=λn=>n}
theorem A3r:Lays8.n4 prog A3q:=by
 constructor
 case f4=>exact Exists.intro "slices.Grow[[]amortcost/api.Index,amortcost/api.Index]" ⟨κ,κ⟩
 all_goals first|kernel_rfl | (intro w;kernel_rfl)
theorem A3s (h:M9 n=some r):Bo prog 316 [.val (.slice none 0 0),O .i64 n] [] (.arr 0 r.length 0 r.length) [.rows 67 2 (r.map eA)] := Afo A3r rfl ⟨_,func316,κ,κ⟩ Tryz.t67 (Tryz.t67.zero.getD .nilFunc) κ κ rfl κ κ δ (of_decide_eq_true κ) h
end Go.Ab
namespace Go.Ab
open Go Go.Proofs Go.Proofs.Tryz
theorem A3t {σ:A7} {ι:Ca} {H:Hp} {x y z:AV} {vs:Array Value} (h:Lz σ ι H [x,y,z] vs):∃v u w,vs = #[v,u,w]/\Conc σ ι H x v/\Conc σ ι H y u/\Conc σ ι H z w:=by
 obtain⟨h1,h2⟩:=h;have h1:vs.size=3:=h1;refine⟨vs[0],vs[1],vs[2],?_,h2 0 x _ rfl (by simp[h1]),h2 1 y _ rfl (by simp[h1]),h2 2 z _ rfl (by simp[h1])⟩;apply Array.ext
 .simp[h1]
 .intro i hi _
  match i with| 0=>rfl| 1=>rfl| 2=>rfl| i+3=>omega
theorem A3u {a0 a1 b:Int} {r:Int×Int} (h:Aeh a0 a1 b=some r):Ext prog 79 [O .u64 a0,O .u64 a1,O .u64 b] (.tup [O .u64 r.1,O .u64 r.2]):=by
 unfold Aeh at h;cases hb:(decide (0<=a0)&&decide (0<=a1)&&decide (0<=b)&&decide (b<=1)) with
 | false=>rw[hb]at h;cases h
 | true=>
  rw[hb]at h;cases h;simp only[Bool.and_eq_true,decide_eq_true_eq]at hb;obtain⟨⟨⟨h0,h1⟩,h2⟩,h3⟩:=hb;intro σ F W w vs s hc;obtain⟨u,v,c,rfl,g1,g2,g3⟩:=A3t hc;have g1:=g1.val_inv;have g2:=g2.val_inv;have g3:=g3.val_inv;subst g1;subst g2;subst g3;refine⟨.tuple #[.int .u64 ((a0+a1+b) % 18446744073709551616),.int .u64 ((a0+a1+b) / 18446744073709551616)],?_,?_⟩
  .rw[run_callFunc_extern func79 κ κ κ (e:=add64Entry) κ,run_add64 a0 a1 b h0 h1 h2 h3];rfl
  .refine .tup _ _ rfl λi c v hi hv=>?_
   match i with| 0=>cases hi;cases hv;exact .of_val _| 1=>cases hi;cases hv;exact .of_val _| i+2=>cases hi
end Go.Ab
