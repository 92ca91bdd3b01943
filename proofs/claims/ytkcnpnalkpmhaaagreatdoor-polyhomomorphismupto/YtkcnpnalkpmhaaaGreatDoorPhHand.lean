/- Contracts of strings.Builder and strconv.Itoa. -/
import Derived.Test.YtkcnpnalkpmhaaaGreatDoorPhTy
import Derived.Test.YtkcnpnalkpmhaaaGreatDoorPhHandB
import Derived.Shelf.Strconv.Itoa4
import Derived.KernelRfl
import Derived.Shelf.Sort.Plain
import Derived.Shelf.SlSortCmp.WholeK
import Derived.Shelf.Spec.SlicesGrow
open List
namespace Go.Ab
open Go Go.Proofs Go.Shelf Go.Proofs.Tryz
set_option maxRecDepth 100000
variable {F σ:A5} {p x:AV} {vs:Array Value} {r:ByteArray} {ι:Cf} {H:Hp} {a0:Int} {l:List Int} {W w:World}
def Aqb:Ren:={f:=λx=>match x with|171=>130|243=>199|246=>259|283=>286|284=>287|285=>288|286=>289|129=>182|317=>311|318=>312|319=>313|320=>314|337=>324|338=>325|173=>201|n=>n,t:=λx=>match x with|3=>3|9=>9|2=>2|4=>4|171=>363|0=>0|53=>160|37=>192|5=>5|173=>365|212=>382|51=>118|20=>20|213=>383|46=>176|232=>393|233=>394|n=>n,g:=λx=>match x with|17=>0|18=>1|19=>2|n=>n}
theorem Aqc:LaysM.n171 prog Aqb:=by constructor;constructor;all_goals first|kernel_rfl | (intro w;kernel_rfl)
theorem St.grown (s:St σ ι0 H0 F W w) (k:Nat) (os:Array Obj):St σ ι0 H0 F W (Sort.grow (w.drewN k) os):=by
 have hk:∀(b:Nat) (o:Obj),w.heap[b]? = some o->(Sort.grow (w.drewN k) os).heap[b]? = some o:=by intro b o h;have c:=(Array.getElem?_eq_some_iff.1 h).1;show (w.heap++os)[b]? = _;rw[Array.getElem?_append_left c];exact h
 exact⟨λb o h=>hk b o (s.sto b o h),λb o h=>⟨hk b o (s.fra b o h).1,(s.fra b o h).2⟩,λ_=>rfl,(λ_ _ _ f=>by cases f),s.os,s.tape,s.output,s.glo,Nat.le_trans s.drw (Nat.le_add_right _ _)⟩
theorem Aqd (s:St σ ι H F W w):Lib.TabIs prog w "internal/strconv.uint64pow10" .u64 Lib.pow10Tab:=by obtain⟨E,fr,e⟩:=s.glo;have h:=s.sto _ _ e;have g:prog.globalNamed "internal/strconv.uint64pow10" = some 0:=Aqc.m17;unfold Lib.TabIs World.var?;rw[g];simp only[Option.bind_some,h]
theorem Vb (h:Of σ ι H [x] vs):∃v,vs = #[v]/\Conc σ ι H x v:=by
 obtain⟨h1,h2⟩:=h;have h1:vs.size=1:=h1;refine⟨vs[0],?_,h2 0 x _ rfl (by simp[h1])⟩;apply Array.ext
 .simp[h1]
 .intro i hi b;have:i=0:=ω;subst this;rfl
theorem A2l (h:Qh a0=some r):A6 prog 130 [O .i64 a0] (Gw r):=by
 unfold Qh at h;split at h
 .rename_i hc;cases h;refine⟨⟨_,func130,κ,κ⟩,λσ F W w vs s b=>?_⟩;obtain⟨v,rfl,hv⟩:=Vb b;have hv:=hv.val_inv;subst hv;have:=Any.strconv_Itoa Aqc a0 hc.1 hc.2 w (Aqd s);refine this.mono ?_;rintro e w' ⟨rfl,k,os,rfl⟩;exact⟨_,σ,rfl,A5.le_refl σ,s.grown k os,.of_val _⟩
 .cases h
theorem A2m:LaysM.n173 prog Aqb:=by constructor;constructor;all_goals first|kernel_rfl | (intro w;kernel_rfl)
theorem Akm {y:AV} (h:Of σ ι H [x,y] vs):∃v u,vs = #[v,u]/\Conc σ ι H x v/\Conc σ ι H y u:=by
 obtain⟨h1,h2⟩:=h;have h1:vs.size=2:=h1;refine⟨vs[0],vs[1],?_,h2 0 x _ rfl (by simp[h1]),h2 1 y _ rfl (by simp[h1])⟩;apply Array.ext
 .simp[h1]
 .intro i hi b;rcases (ω:i=0\/i=1) with h|h
  .subst h;rfl
  .subst h;rfl
theorem A2n {a1:Int} (h:Ad7 a0 a1=some r):A6 prog 201 [O .i64 a0,O .i64 a1] (Gw r):=by
 unfold Ad7 at h;cases hb:a1==10 with
 | false=>rw[hb]at h;cases h
 | true=>
  rw[hb]at h;have hb:=eq_of_beq hb;subst hb;have h:Qh a0=some r:=h;unfold Qh at h;split at h
  .rename_i hc;cases h;refine⟨⟨_,func201,κ,κ⟩,λσ F W w vs s b=>?_⟩;obtain⟨v,u,rfl,hv,hu⟩:=Akm b;have hv:=hv.val_inv;have hu:=hu.val_inv;subst hv;subst hu;have:=Any.strconv_FormatInt_10 A2m a0 hc.1 hc.2 w (Aqd s);refine this.mono ?_;rintro e w' ⟨rfl,k,os,rfl⟩;exact⟨_,σ,rfl,A5.le_refl σ,s.grown k os,.of_val _⟩
  .cases h
theorem Aa3 (o:Bs) (os:List Bs):hp (o::os) 0=o:=rfl
theorem A2o (x:AV) (rest:List Bs):Bq prog 197 [.loc 0 0] (.cells 194 [.loc 0 0,x]::rest) (.tup []) (.cells 194 [.loc 0 0,x]::rest):=by
 refine⟨⟨_,func197,κ,κ⟩,λσ F W w ι vs s f=>?_⟩;obtain⟨v,rfl,hv⟩:=Vb f;obtain⟨b,hb,hv⟩:=hv.loc_inv;subst hv;have k:=s.obj 0;unfold C5 at k;rw[Aa3]at k;obtain⟨z,C,u,_,_,h3,q,y⟩:=k;rw[hb]at u;cases u;have q:C.size=2:=q;have g:C[0]? = some C[0]:=by simp[q]
 have l:=y 0 (.loc 0 0) C[0] rfl g;obtain⟨b2,h,j⟩:=l.loc_inv;rw[hb]at h;cases h;have cell:w.cell? ⟨b,0,none⟩=some (.pointer (some ⟨b,0,none⟩)):=by rw[Kj h3,g,j]
 refine (Tryz.check_used b w cell).mono ?_;rintro e w' ⟨rfl,rfl⟩;exact⟨_,σ,ι,rfl,Le.refl _ _ _,s,.tup _ _ rfl (λi c v h1 _=>by cases h1)⟩
theorem A2p (x:AV) (rest:List Bs):Bq prog 197 [.loc 0 0] (.cells 194 [.val (.pointer none),x]::rest) (.tup []) (.cells 194 [.loc 0 0,x]::rest):=by
 refine⟨⟨_,func197,κ,κ⟩,λσ F W w ι vs s j=>?_⟩;obtain⟨v,rfl,hv⟩:=Vb j;obtain⟨b,hb,hv⟩:=hv.loc_inv;subst hv;have q:=s.obj 0;unfold C5 at q;rw[Aa3]at q;obtain⟨B,C,z,_,_,h3,g,y⟩:=q;rw[hb]at z;cases z;have g:C.size=2:=g;have k:C[0]? = some C[0]:=by simp[g]
 have l:=(y 0 (.val (.pointer none)) C[0] rfl k).val_inv;have cell:w.cell? ⟨b,0,none⟩=some (.pointer none):=by rw[Kj h3,k,l]
 refine (Tryz.check_fresh b w cell (by simp[World.shape?,h3,g]) (by simp[World.frozen?,h3])).mono ?_;rintro e w' ⟨rfl,rfl⟩;obtain⟨s',le⟩:=s.setBox 0 194 [.val (.pointer none),x] [.loc 0 0,x] rfl b hb #[.pointer (some ⟨b,0,none⟩),C[1]] rfl (by
  intro i c v h1 h2
  match i with| 0=>simp at h1 h2;subst h1;subst h2;exact .loc 0 0 b hb| 1=>simp at h1 h2;subst h1;subst h2;exact y 1 x _ rfl (by simp[g])| i+2=>simp at h1)
 have A:A9 (hp (.cells 194 [.val (.pointer none),x]::rest)) 0 (.cells 194 [.loc 0 0,x])=hp (.cells 194 [.loc 0 0,x]::rest):=by funext i;cases i with| zero=>rfl| succ i=>rfl
 have eW:w.setCell ⟨b,0,none⟩ (.pointer (some ⟨b,0,none⟩))=w.setRow b #[.pointer (some ⟨b,0,none⟩),C[1]]:=by
  have h:C.setIfInBounds 0 (.pointer (some ⟨b,0,none⟩)) = #[.pointer (some ⟨b,0,none⟩),C[1]]:=by
   apply Array.ext
   .simp[g]
   .intro i hi u
    match i with| 0=>simp| 1=>rw[Array.getElem_setIfInBounds_ne _ δ];rfl| i+2=>simp at u;omega
  have f:(w.setCell ⟨b,0,none⟩ (.pointer (some ⟨b,0,none⟩))).heap=(w.setRow b #[.pointer (some ⟨b,0,none⟩),C[1]]).heap:=by
   apply Array.ext_getElem?;intro i;simp only[World.setCell,World.setRow,Array.getElem?_modify];split
   .rename_i e;subst e;rw[h3];simp[h]
   .rfl
  unfold World.setCell World.setRow at f ⊢;simp only at f;rw[f]
 rw[A]at s' le;rw[eW];exact⟨_,σ,ι,rfl,le,s',.tup _ _ rfl (λi c v h1 _=>by cases h1)⟩
theorem A2q (h:∀x∈l,0<=x/\x<256) {j:Nat} {x:UInt8} (hx:(Fh l)[j]? = some x):l[j]? = some (x.toNat:Int):=by simp only[Fh,getElem?_map,Option.map_eq_some_iff]at hx;obtain⟨y,hy,rfl⟩:=hx;have b:=h y (mem_of_getElem? hy);rw[hy];congr 1;have:y.toNat<256:=ω;simp only[UInt8.toNat_ofNat'];omega
theorem St.kill (s:St σ ι H F W w) (h:Nat):St σ ι (A9 H h .dead) F W w/\Le σ ι H σ ι (A9 H h .dead):=by
 have le:Le σ ι H σ ι (A9 H h .dead):=by have:=Le.upd (ι:=ι) (H:=H) (A5.le_refl σ) h (ι h) .dead ⟨λ_ e=>e,(λ_ e=>by cases e),(λ_ k j i e=>by cases e)⟩;rwa [Jm]at this
 obtain⟨f1,f2⟩:=s.fresh;refine⟨s.touch h w.heap.size (λ_ _=>rfl) (λx e=>Dk _ _ e) le (λ_ _=>rfl) (λ_ _=>rfl) (λo g=>by rw[f1]at g;cases g) ?_ f2 ?_ ?_ rfl rfl rfl,le⟩
 .intro x _ c f;have:=(s.block c f).1;omega
 .intro b c;rw[Cr]at c;cases c
 .unfold C5;rw[Cr];trivial
theorem St.fbox (s0:St σ ι H F W w) {T:TypeId} {s:ByteArray} {b:Nat} {C:Array Value} (hh:H 0 = .cells T [p,x]) (hb:ι 0 = .box b) (h3:w.heap[b]? = some (.cells C T (0,0))) (hc:∀v,C[1]? = some v->CC σ (.fb s) v):St σ ι (A9 H 0 (.cells T [p,.fb s])) F W w/\Le σ ι H σ ι (A9 H 0 (.cells T [p,.fb s])):=by
 have f:=s0.obj 0;unfold C5 at f;rw[hh]at f;obtain⟨q,u,j,g1,g2,g3,g4,g5⟩:=f;rw[hb]at j;cases j;rw[h3]at g3;cases g3;have le:Le σ ι H σ ι (A9 H 0 (.cells T [p,.fb s])):=by have:=Le.upd (ι:=ι) (H:=H) (A5.le_refl σ) 0 (ι 0) (.cells T [p,.fb s]) (by rw[hh];exact⟨λ_ e=>e,(λ_ e=>by cases e),(λ_ _ _ _ e=>by cases e)⟩);rwa [Jm]at this
 refine⟨s0.touch 0 b (λ_ _=>rfl) (λx e=>Dk _ _ e) le (λx e=>rfl) (λ_ _=>rfl) (λo e=>by rw[g1]at e;cases e) ?_ g2 ?_ ?_ rfl rfl rfl,le⟩
 .intro x e k g;exact e (s0.inj x 0 b k (by rw[hh];rfl) g (by rw[hb];rfl))
 .intro l _ h;exact .inr ⟨by rw[hh];rfl,h⟩
 .unfold C5;rw[Cr];refine⟨b,C,hb,g1,g2,h3,by simpa using g4,λi c v x y=>?_⟩
  match i with| 0=>exact (g5 0 c v x y).mono le| 1=>cases x;exact .cc (hc v y)| i+2=>cases x
theorem A2r:Bq prog 132 [.loc 0 0] [.cells 194 [p,.arr 1 0 0 0],.rows 5 1 []] (Gw .empty) [.cells 194 [p,.fb .empty],.dead]:=by
 refine⟨⟨_,func132,κ,κ⟩,λσ F W w ι vs s y=>?_⟩;obtain⟨v,rfl,hv⟩:=Vb y;obtain⟨b,hb,hv⟩:=hv.loc_inv;subst hv;have L:=s.obj 0;unfold C5 at L;rw[Aa3]at L;obtain⟨b',C,X,_,_,h3,A,h5⟩:=L;rw[hb]at X;cases X;have A:C.size=2:=A;have Z:C = #[C[0],C[1]]:=by
  apply Array.ext
  .simp[A]
  .intro i hi M
   match i with| 0=>rfl| 1=>rfl| i+2=>simp at M;omega
 have N:=h5 1 (.arr 1 0 0 0) C[1] rfl (by simp[A]);have x:hp [Bs.cells 194 [p,.arr 1 0 0 0],.rows 5 1 []] 1 = .rows 5 1 []:=rfl;have c:=N.arr_inv x ψ;have hor:=s.obj 1;unfold C5 at hor;rw[x]at hor;obtain⟨_,U,hor⟩:=hor;have eH:A9 (A9 (hp [Bs.cells 194 [p,.arr 1 0 0 0],.rows 5 1 []]) 1 .dead) 0 (.cells 194 [p,.fb .empty])=hp [Bs.cells 194 [p,.fb .empty],.dead]:=by
  funext i
  match i with| 0=>rfl| 1=>rfl| i+2=>rfl
 have go:∀(a q:Option Addr) (cap:Nat) (z:A5) (j:World),C[1] = .slice a 0 cap->j.heap[b]? = w.heap[b]?->(Builtin.unsafeSliceData_ #[192] 277 #[.slice a 0 cap]).run prog w.drew = .ok (.pointer q) j ->
   Le σ ι (hp [Bs.cells 194 [p,.arr 1 0 0 0],.rows 5 1 []]) z ι (hp [Bs.cells 194 [p,.arr 1 0 0 0],.rows 5 1 []])->St z ι (hp [Bs.cells 194 [p,.arr 1 0 0 0],.rows 5 1 []]) F W j -> Calls prog 132 #[.pointer (some ⟨b,0,none⟩)] w λe w'=>∃v B E,e = .returned v/\Le σ ι (hp [Bs.cells 194 [p,.arr 1 0 0 0],.rows 5 1 []]) B E (hp [Bs.cells 194 [p,.fb .empty],.dead])/\St B E (hp [Bs.cells 194 [p,.fb .empty],.dead]) F W w'/\Conc B E (hp [Bs.cells 194 [p,.fb .empty],.dead]) (Gw .empty) v:=by intro a q cap z j f u R le G;have h:w.heap[b]? = some (.cells #[C[0],.slice a 0 cap] 194 (0,0)):=(by rw[h3];congr 1;rw[<-f,<-Z]);refine (Tryz.builder_str0 b cap C[0] a q w j h (u.trans h) R).mono ?_;rintro e w' ⟨rfl,rfl⟩;obtain⟨Y,I⟩:=G.kill 1;obtain⟨S,l⟩:=Y.fbox (b:=b) (C:=#[C[0],.slice a 0 cap]) (s:=.empty) (by rfl) hb ((u.trans h)) (λv hv=>by simp at hv;subst hv;exact .fbn _ _ _ rfl);rw[eH]at S l;exact⟨_,z,ι,rfl,(le.trans I).trans l,S,.of_val _⟩
 rcases hor with⟨hi,_⟩|⟨g,k,D,hg,g1,g2,g3,g4,g5,g6⟩
 .unfold Hq at c;rw[hi]at c;exact go none none 0 σ w.drew c.1 rfl rfl (Le.refl _ _ _) (s.drew _)
 .unfold Hq at c;rw[hg]at c;simp only[Nat.zero_mul,Nat.zero_add,Nat.sub_zero]at c;obtain⟨_,f⟩:=c;by_cases ht:k=0
  .subst ht;obtain⟨G,J⟩:=(s.drew (w.drawn+1)).newFrozen (.view ⟨g,0,none⟩ 5);have V:=(Array.getElem?_eq_some_iff.1 h3).1;refine go _ _ 0 _ (w.drew.alloc (.view ⟨g,0,none⟩ 5)) f ?_ (Lib.run_unsafeSliceData_zero _ _ _ 5 Go.Proofs.Tryz.underlying277 _ _ (5,D.size) (by have:w.drew.heap[g]? = some (.cells D 5 (0,0)):=g3;simp[World.shape?,this])) J G;show (w.heap.push _)[b]? = _;rw[Array.getElem?_push,if_neg ω]
  .exact go _ _ k σ w.drew f rfl (Lib.run_unsafeSliceData_row _ _ _ _ _ _ ht) (Le.refl _ _ _) (s.drew _)
theorem Aqe (h:Y6 l=some r):Bq prog 132 [.loc 0 0] [.cells 194 [p,.arr 1 l.length 0 l.length],.rows 5 1 (map (O .u8) l)] (Gw r) [.cells 194 [p,.fb r],.dead]:=by
 unfold Y6 at h;split at h
 .rename_i a8;cases h;by_cases u:l = []
  .subst u;exact A2r
  refine⟨⟨_,func132,κ,κ⟩,λσ F W w ι vs s R=>?_⟩;obtain⟨v,rfl,hv⟩:=Vb R;obtain⟨b,hb,hv⟩:=hv.loc_inv;subst hv;have A:=s.obj 0;unfold C5 at A;rw[Aa3]at A;obtain⟨b',C,e1,_,_,h3,X,h5⟩:=A;rw[hb]at e1;cases e1;have X:C.size=2:=X;have hC:C = #[C[0],C[1]]:=by
   apply Array.ext
   .simp[X]
   .intro i hi a6
    match i with| 0=>rfl| 1=>rfl| i+2=>simp at a6;omega
  have a7:=h5 1 (.arr 1 l.length 0 l.length) C[1] rfl (by simp[X]);have M:hp [Bs.cells 194 [p,.arr 1 l.length 0 l.length],.rows 5 1 (map (O .u8) l)] 1 = .rows 5 1 (map (O .u8) l):=rfl;have y:=a7.arr_inv M ψ;have hor:=s.obj 1;unfold C5 at hor;rw[M]at hor;obtain⟨_,L,hor⟩:=hor;rw[length_map]at L;rcases hor with⟨_,I⟩|⟨g,q,D,hg,g1,g2,g3,g4,g5,g6⟩
  .exact (u (by simpa using I)).elim
  .rw[length_map]at g5;unfold Hq at y;rw[hg]at y;simp only[Nat.zero_mul,Nat.zero_add,Nat.sub_zero]at y;obtain⟨ht,G⟩:=y;have c:(Fh l).length=l.length:=(by simp[Fh]);have f:∀(j:Nat) (x:UInt8),(Fh l)[j]? = some x->D[j]? = some (Value.int .u8 x.toNat):=(by intro j x hx;have hj:=A2q a8 hx;obtain⟨gg,q1,q2,q3⟩:=g6;have E:(map (O .u8) l)[j]? = some (O .u8 x.toNat):=(by rw[getElem?_map,hj];rfl);have Z:j<(map (O .u8) l).length:=(List.getElem?_eq_some_iff.1 E).1;have q4:=q3 j 0 Z ω;have q5:=(q2 j _ 0 _ E rfl).1;have:gg j 0=Value.int .u8 x.toNat:=(by generalize gg j 0=z at q5;cases q5;rfl);rw[this]at q4;simpa using q4);have S:w.heap[b]? = some (.cells #[C[0],.slice (some ⟨g,0,none⟩) (Fh l).length q] 194 (0,0)):=(by rw[h3];congr 1;rw[c];have:C[1] = .slice (some ⟨g,0,none⟩) l.length q:=G;rw[<-this,<-hC]);have U:l.length<=D.size:=(by rw[g4];omega);have call:=Tryz.builder_str b g q C[0] D (Fh l) w (by intro e;apply u;rw[<-length_eq_zero_iff,<-c,e];rfl) S g3 (by rw[c];exact g5) (by rw[c];exact U) (by rw[c];omega) f;refine call.mono ?_;rintro e w' ⟨rfl,rfl⟩;have J:(Fh l).length≠0:=(by rw[c];simpa using u);have a1:σ.le (A9 σ g (some (.cells D 5 (0,(Fh l).length)))):=(by intro b' o' hb';rw[Dk _ _ (by intro e;subst e;rw[g1]at hb';cases hb')];exact hb');have Y:(w.drew.freeze ⟨g,0,none⟩ (Fh l).length).heap[g]? = some (.cells D 5 (0,(Fh l).length)):=(by unfold World.freeze;rw[if_neg J];simp only[Array.getElem?_modify,if_true];have:w.drew.heap[g]? = some (.cells D 5 (0,0)):=g3;rw[this];simp);have N:∀b,b≠g->(w.drew.freeze ⟨g,0,none⟩ (Fh l).length).heap[b]? = w.heap[b]?:=by
    intro b hb;unfold World.freeze;split
    .rfl
    .simp only[Array.getElem?_modify];rw[if_neg (Ne.symm hb)];rfl
   have le:Le σ ι (hp [Bs.cells 194 [p,.arr 1 l.length 0 l.length],.rows 5 1 (map (O .u8) l)]) (A9 σ g (some (.cells D 5 (0,(Fh l).length)))) ι (A9 (hp [Bs.cells 194 [p,.arr 1 l.length 0 l.length],.rows 5 1 (map (O .u8) l)]) 1 .dead):=(by have:=Le.upd (ι:=ι) (H:=hp [Bs.cells 194 [p,.arr 1 l.length 0 l.length],.rows 5 1 (map (O .u8) l)]) a1 1 (ι 1) .dead ⟨λ_ e=>e,(λ_ e=>by cases e),(λ_ E1 ad ac e=>by cases e)⟩;rwa [Jm]at this);have eH:A9 (A9 (hp [Bs.cells 194 [p,.arr 1 l.length 0 l.length],.rows 5 1 (map (O .u8) l)]) 1 .dead) 0 (.cells 194 [p,.fb ⟨(Fh l).toArray⟩])=hp [Bs.cells 194 [p,.fb ⟨(Fh l).toArray⟩],.dead]:=by
    funext i
    match i with| 0=>rfl| 1=>rfl| i+2=>rfl
   have ab:b≠g:=(by intro e;have:=s.inj 0 1 g rfl rfl (by rw[hb,e];rfl) (by rw[hg];rfl);cases this);have s2:St (A9 σ g (some (.cells D 5 (0,(Fh l).length)))) ι (A9 (hp [Bs.cells 194 [p,.arr 1 l.length 0 l.length],.rows 5 1 (map (O .u8) l)]) 1 .dead) F W (w.drew.freeze ⟨g,0,none⟩ (Fh l).length):=by
    refine s.touch (hdrw:=by unfold World.freeze;split <;> exact Nat.le_succ _) 1 g (λ_ _=>rfl) (λx e=>Dk _ _ e) le N (λx e=>Dk _ _ e) (λo A=>by rw[Cr]at A;cases A;exact Y) ?_ g2 ?_ ?_ ?_ ?_ ?_
    .intro x hx V aa;exact hx (s.inj x 1 g V rfl aa (by rw[hg];rfl))
    .intro b0 V;rw[Cr]at V;cases V
    .unfold C5;rw[Cr];trivial
    .unfold World.freeze;split <;> rfl
    .unfold World.freeze;split <;> rfl
    .unfold World.freeze;split <;> rfl
   obtain⟨s3,B⟩:=s2.fbox (b:=b) (C:=#[C[0],.slice (some ⟨g,0,none⟩) (Fh l).length q]) (s:=⟨(Fh l).toArray⟩) (by rfl) hb ((N b ab).trans S) (λv hv=>by simp only[getElem?_toArray,getElem?_cons_succ,getElem?_cons_zero,Option.some.injEq]at hv;subst hv;have k:(ByteArray.mk (Fh l).toArray).size=(Fh l).length:=(by simp[ByteArray.size]);rw[<-k];refine .fb _ g q D (by rw[Cr,k]) (by rw[k];exact J) (by rw[k,c];omega) (by rw[k,c];exact U) (by rw[k,c];omega) (λj x hx=>f j x (by simpa using hx)));rw[eH]at s3 B;exact⟨_,_,ι,rfl,le.trans B,s3,.of_val _⟩
 .cases h
theorem Aqf {f:ByteArray} (h:(bif Nat.beq f.size 0 then none else some f)=some r):Bq prog 132 [.loc 0 0] [.cells 194 [p,.fb f]] (Gw r) [.cells 194 [p,.fb f]]:=by
 have q:r.size≠0/\f=r:=by cases hb:Nat.beq f.size 0 with| true=>rw[hb]at h;cases h| false=>rw[hb]at h;cases h;exact⟨(λe=>by rw[e]at hb;exact Bool.noConfusion hb),rfl⟩
 clear h;obtain⟨q,B⟩:=q;subst B;refine⟨⟨_,func132,κ,κ⟩,λσ F W w ι vs s y=>?_⟩;obtain⟨v,rfl,hv⟩:=Vb y;obtain⟨b,hb,hv⟩:=hv.loc_inv;subst hv;have E:=s.obj 0;unfold C5 at E;rw[Aa3]at E;obtain⟨X,C,M,_,_,h3,A,S⟩:=E;rw[hb]at M;cases M;have A:C.size=2:=A;have L:C = #[C[0],C[1]]:=by
  apply Array.ext
  .simp[A]
  .intro i hi G
   match i with| 0=>rfl| 1=>rfl| i+2=>simp at G;omega
 have l:=S 1 (.fb f) C[1] rfl (by simp[A]);generalize C[1]=u at L l;generalize C[0]=N at L;subst L;cases l with
 | cc l=>
  cases l with
  | fbn _ a cap h0=>exact (q h0).elim
  | fb _ g cap D R h0 z J V I=>
   have hg:=s.sto _ _ R;have k:f.data.toList.length=f.size:=(by rw[Array.length_toList];rfl);have call:=Tryz.builder_str b g cap N D f.data.toList w (by intro e;rw[e]at k;exact h0 k.symm) (by rw[k];exact h3) hg (by rw[k];exact z) (by rw[k];exact J) (by rw[k];omega) (λj x hx=>I j x (by simpa using hx));refine call.mono ?_;rintro e w' ⟨rfl,rfl⟩;have hw:w.drew.freeze ⟨g,0,none⟩ f.data.toList.length=w.drew:=by
    unfold World.freeze;split
    .rfl
    .have:w.drew.heap.modify g (λo=>match o with|.cells c elem (lo,hi)=>.cells c elem (if lo==hi then (0,0+f.data.toList.length) else (min lo 0,max hi (0+f.data.toList.length))) | o=>o)=w.drew.heap:=by
      apply Array.ext_getElem?;intro i;rw[Array.getElem?_modify];split
      .rename_i e;subst e;have:w.drew.heap[g]? = some (.cells D 5 (0,f.size)):=hg;rw[this];simp[k,Ne.symm h0]
      .rfl
     exact congrArg (λh=>{w.drew with heap:=h}) this
   rw[hw];have U:(⟨f.data.toList.toArray⟩:ByteArray)=f:=ψ;rw[U];exact⟨_,σ,ι,rfl,Le.refl _ _ _,s.drew _,.of_val _⟩
end Go.Ab
namespace Go.Ab
open Go Go.Proofs Go.Proofs.Tryz
set_option linter.unusedVariables false
class OK {α:Type} (o:Option α) (G:outParam (α->Prop)):Prop where
 ok:∀{r:α},o=some r->G r
theorem Ev {α:Type} {G:α->Prop}:OK (none:Option α) G:=⟨λh=>by cases h⟩
section
variable {P:Program} {C:Cfg} {Qn:Nat->B7->Hp->Prop} {Qe:Nat->Nat->B7->Hp->Prop} {Qr:Nat->B7->Hp->Prop} {n:Nat} {e:B7} {H:Hp} {β:Type} {r:β}
variable {T:Dd} {an:Nat->Ann} {nl:Nat->List (Nat×Nat)} {ops:Array Oper} {o:Oper} {os:List Oper} {acc:Ju} {K:Nat->B7->Hp->Ju->Prop}
variable {fn:Func} {hi i lo:Int} {xs ys zs:List AV} {hs:List Bs} {b kk n0:Nat} {E S α:Type} {J:E->Option β} {l:List α} {g:List α->List AV} {m:List α->Option β} {s0:S} {iv:S->List (Nat×AV)} {hv:S->List (Nat×Bs)} {x:α} {ra:α->AV} {G:α->Prop}
theorem Hs {p:Nat×Bool} {s:Nat} {b:Bool} {m m':Option β} (h:(bif b then m else m')=some r) (h1:b=true->m=some r->Gd (F0 P T an nl ops (o::os) n (A9 e s (.val (.bool true))) H acc K)) (h2:b=false->m'=some r->Gd (F0 P T an nl ops (o::os) n (A9 e s (.val (.bool false))) H acc K)) (hg:o.guard=some p:=by exact rfl) (hs:(ops[p.1]?).bind (·.dst)=some s:=by exact rfl) (hb:e s = .val (.bool b):=by exact rfl):Gd (F0 P T an nl ops (o::os) n e H acc K):=A1u h h1 h2 hb
theorem nw {c:Code} (k:wc P C c Qn Qe Qr n e H):Gd (wc P C c Qn Qe Qr n e H):=.mk k
theorem Cu {o:S⊕E} {x:E} (h:some (Sum.inr x)=some o) (hx:∀x,Sum.inr x=o->J x=some r:=by assumption):J x=some r:=hx x (Option.some.inj h)
theorem lpj {o:S} {J:S->Option β} {x:S} (h:some x=some o) (hx:∀y,y=o->J y=some r:=by assumption):J x=some r:=hx x (Option.some.inj h)
theorem lpn {o:S⊕E} {s':S} {K:Nat->B7->Hp->Prop} {inv:S->Prop} {H0:Hp} (h:some (Sum.inl s')=some o) (hn:∀s' n' e' H',Sum.inl s'=o->H5 e' (iv s')->H6 H' (Ct H0 (hv s')) n0 n0->inv s'->K n' e' H':=by assumption) (hs:H5 e (iv s'):=by (repeat refine⟨rfl,?_⟩);exact trivial) (hh:H6 H (Ct H0 (hv s')) n0 n0:=by (repeat refine⟨⟨rfl,rfl⟩,?_⟩);exact trivial) (hi:inv s':=by first|trivial|exact rfl | ((repeat refine Jc ?_ _ _);first|exact rfl|assumption)):K n e H:=hn s' n e H (Option.some.inj h) hs hh hi
theorem jnn {o x:E} {s:S} {J:S->Prop} {K:Nat->B7->Hp->Prop} {H0:Hp} (h:some x=some o) (hn:∀s n' e' H',J s->H5 e' (iv s)->H6 H' (Ct H0 (hv s)) n0 n0->K n' e' H':=by assumption) (hJ:J s:=by exact Option.some.inj h) (hs:H5 e (iv s):=by (repeat refine⟨rfl,?_⟩);exact trivial) (hh:H6 H (Ct H0 (hv s)) n0 n0:=by (repeat refine⟨⟨rfl,rfl⟩,?_⟩);exact trivial):K n e H:=hn s n e H hJ hs hh
theorem Sv {o:Option α} {m:α->Option β} {f:FuncId} {args:List AV} {K:Eff->Nat->Prop} (h:o.bind m=some r) [i:OK o G] (k:∀v,m v=some r->K ⟨ra v,[],[]⟩ n) (hG:∀v,G v->A6 P f args (ra v):=by exact λ_ h=>h) (hf:args.all AV.free=true:=by exact rfl):Fz P n H f args K := Df h λv hv h=>Fz.mk _ (hG v (i.ok hv)) hf (k v h)
theorem Aqg {o:Option α} {m:α->Option β} {f:FuncId} {args args':List AV} {K:Eff->Nat->Prop} (h:o.bind m=some r) [i:OK o G] (k:∀v,m v=some r->K ⟨ra v,[],[]⟩ n) (hG:∀v,G v->A6 P f args' (ra v):=by exact λ_ h=>h) (hs:Rw args args':=by (repeat first|refine⟨Sub.refl _,?_⟩|refine⟨Sub.nil _,?_⟩);exact trivial) (hf:args.all AV.free=true:=by exact rfl):Fz P n H f args K := Df h λv hv h=>Fz.mk _ (A6.sub (hG v (i.ok hv)) hs (Sub.refl _)) hf (k v h)
theorem Xp {o:Option α} {m:α->Option β} {f:FuncId} {args largs:List AV} {hs':α->List Bs} {K:Eff->Nat->Prop} (l:List Nat) (h:o.bind m=some r) [i:OK o G] (k:∀v,m v=some r->K ⟨ren (Dq n l) (ra v),Fy (Dq n l) 0 hs++Cp (Dq n l) l.length ((hs' v).length-l.length),Fy (Dq n l) 0 (hs' v)⟩ (n+((hs' v).length-l.length))) (hG:∀v,G v->Bq P f largs hs (ra v) (hs' v):=by exact λ_ h=>h) (ha:largs.map (ren (Dq n l))=args:=by exact rfl) (ok:∀v,Og n l largs hs (ra v) (hs' v)=true:=by exact λ_=>rfl) (hh:Pc H (Fy (Dq n l) 0 hs):=by (repeat refine⟨rfl,?_⟩);exact trivial):Fz P n H f args K := Df h λv hv h=>Fz.act l largs hs (ra v) (hs' v) (hG v (i.ok hv)) ha (ok v) hh (k v h)
theorem Pu {f:α->AV} {m:α->Option β} {K:Nat->AV->Prop} (h:(Ag l i).bind m=some r) (k:∀(n:Nat) (x:α),i=n->l[n]? = some x->m x=some r->K n (f x)) (he:ys=l.map f:=by first|exact rfl|exact Ll _|exact Lm _|exact K1 _):Wa ys i K:=Ape he h k
theorem Jw {f:α->AV} {m:α->Option β} {K:Nat->Prop} {len:Nat} (h:(Ag l i).bind m=some r) (k:∀(n:Nat) (x:α),i=n->l[n]? = some x->m x=some r->K n) (he:ys=l.map f:=by first|exact rfl|exact Ll _|exact Lm _|exact K1 _) (hl:len=l.length:=by first|exact rfl|assumption|exact Iw (by assumption) | ((repeat refine Jc ?_ _ _);first|exact rfl|assumption)) (hk:kk=l.length:=by first|exact rfl|assumption|exact Iw (by assumption) | ((repeat refine Jc ?_ _ _);first|exact rfl|assumption)):Tw len kk ys i K:=A1v he hl hk h k
theorem Nx {f:α->AV} {m:α->Option β} {K:Nat->Prop} {off len:Nat} (h:(Ig l off len i).bind m=some r) (k:∀(n:Nat) (x:α),i=n->l[off+n]? = some x->m x=some r->K n) (he:ys=l.map f:=by first|exact rfl|exact Ll _|exact Lm _|exact K1 _) (hk:kk=l.length:=by first|exact rfl|assumption|exact Iw (by assumption) | ((repeat refine Jc ?_ _ _);first|exact rfl|assumption)):Tw len kk ys i K:=A1w he hk h k
theorem Sw {f:α->AV} {K:Int->Prop} (k:K (l.length:Int)) (he:ys=l.map f:=by first|exact rfl|exact Ll _|exact Lm _|exact K1 _):Oj ys K:=A19 he k
theorem Sx {f:α->AV} {K:Prop} (k:K) (he:ys=l.map f:=by first|exact rfl|exact Ll _|exact Lm _|exact K1 _) (hk:kk=l.length:=by first|exact rfl|assumption|exact Iw (by assumption) | ((repeat refine Jc ?_ _ _);first|exact rfl|assumption)):Hz kk ys K:=A2a he hk k
theorem Sy {K:Prop} (k:K):Hz 0 [] K:=.mk rfl k
theorem Sz {f:α->AV} {n i:Nat} {K:AV->Prop} (k:K (f x)) (he:ys=l.map f:=by first|exact rfl|exact Ll _|exact Lm _|exact K1 _) (hk:kk=l.length:=by first|exact rfl|assumption|exact Iw (by assumption) | ((repeat refine Jc ?_ _ _);first|exact rfl|assumption)) (hi:i=n/\l[n]? = some x:=by first|exact⟨Nat.zero_add _,by assumption⟩|exact⟨rfl,by assumption⟩):Nb kk i ys K:=A11 he hk hi.1 hi.2 k
theorem Aqh {f:α->AV} {n i:Nat} {j:Int} {p:AV} {K:List AV->Prop} (k:K ((C2 l j x).map f)) (he:ys=l.map f:=by first|exact rfl|exact Ll _|exact Lm _|exact K1 _) (hp:p=f x:=by exact rfl) (hi:i=n/\j=(n:Int):=by first|exact⟨Nat.zero_add _,by assumption⟩|exact⟨rfl,by assumption⟩|exact⟨rfl,Apa _ (by assumption)⟩):Wc ys i p K:=Nj he hp hi.1 hi.2 k
theorem Lo {ys:List α} {f:α->AV} {len:Nat} {K:List AV->Nat->Prop} {KP:List AV->Nat->Nat->Prop} (h:(Cg b l ys).bind m=some r) (k:∀o:List α,m o=some r->K (o.map f) o.length) (he:xs=l.map f/\zs=ys.map f:=by first|exact⟨rfl,rfl⟩ | (refine⟨?_,?_⟩;rotate_left;exact rfl;exact rfl)) (hk:kk=l.length:=by first|exact rfl|assumption|exact Iw (by assumption) | ((repeat refine Jc ?_ _ _);first|exact rfl|assumption)) (hl:len=l.length:=by first|exact rfl|assumption|exact Iw (by assumption) | ((repeat refine Jc ?_ _ _);first|exact rfl|assumption)):Oi xs zs kk len b K KP:=T6 he.1 he.2 hk hl h k
theorem Aqi {l:List Int} {s:ByteArray} {len:Nat} {m:List Int->Option β} {K:List AV->Nat->Prop} {KP:List AV->Nat->Nat->Prop} (h:(Cg b l (On s)).bind m=some r) (k:∀o:List Int,m o=some r->K (o.map λn=>.val (.int .u8 n)) o.length) (he:xs=l.map λn=>.val (.int .u8 n):=by exact rfl) (hk:kk=l.length:=by first|exact rfl|assumption|exact Iw (by assumption) | ((repeat refine Jc ?_ _ _);first|exact rfl|assumption)) (hl:len=l.length:=by first|exact rfl|assumption|exact Iw (by assumption) | ((repeat refine Jc ?_ _ _);first|exact rfl|assumption)):Oi xs (Kk s) kk len b K KP:=A15 he hk hl h k
class GL {α:Type} (g:List α->List AV) (f:outParam (α->AV)):Prop where
 eq:∀l,g l=l.map f
instance:GL Bk Ea:=⟨Ll⟩
instance:GL Hk Fe:=⟨Lm⟩
instance:GL Hw Hr:=⟨K1⟩
theorem Akn {f:α->AV} [i:GL g f] {ys:List α} {len:Nat} {K:List AV->Nat->Prop} {KP:List AV->Nat->Nat->Prop} (h:(Cg b l ys).bind m=some r) (k:∀o:List α,m o=some r->K (g o) o.length) (hz:zs=ys.map f:=by first|exact rfl|exact GL.eq _) (hk:kk=l.length:=by first|exact rfl|assumption|exact Iw (by assumption) | ((repeat refine Jc ?_ _ _);first|exact rfl|assumption)) (hl:len=l.length:=by first|exact rfl|assumption|exact Iw (by assumption) | ((repeat refine Jc ?_ _ _);first|exact rfl|assumption)):Oi (g l) zs kk len b K KP:=A16 i.eq (i.eq l) hz hk hl h k
theorem Aqj {ys:List α} {f:α->AV} {K:List AV->Nat->Prop} (h:(Cg b [] ys).bind m=some r) (k:∀o:List α,m o=some r->K (o.map f) o.length) (hz:zs=ys.map f:=by exact rfl):Tx zs b K:=Apl hz h k
theorem Aqk {f:α->AV} [i:GL g f] {ys:List α} {K:List AV->Nat->Prop} (h:(Cg b [] ys).bind m=some r) (k:∀o:List α,m o=some r->K (g o) o.length) (hz:zs=g ys:=by exact rfl):Tx zs b K:=A17 i.eq (hz.trans (i.eq ys)) h k
theorem Jf {z:α} {f:α->AV} {za:AV} {len cap:Int} {K:Nat->List AV->Prop} (h:(Gq b len cap z).bind m=some r) (k:∀o:List α,m o=some r->K o.length (o.map f)) (hz:za=f z:=by first|exact (rfl:_=O _ _) | exact (rfl:_=Aw _) | exact rfl):Wb len cap b za K:=A18 hz h k
theorem Ow {f:α->AV} {K:List AV->Prop} (h:(E2 l lo hi).bind m=some r) (k:∀l':List α,m l'=some r->K (l'.map f)) (he:ys=l.map f:=by first|exact rfl|exact Ll _|exact Lm _|exact K1 _):Oh ys lo hi K:=Ajo he h k
theorem Aql {f:α->AV} [i:GL g f] {K:List AV->Prop} (h:(E2 l lo hi).bind m=some r) (k:∀l':List α,m l'=some r->K (g l')):Oh (g l) lo hi K:=A13 i.eq (i.eq l) h k
theorem Xq {f:α->AV} [i:GL g f] {K:List AV->Prop} (h:(E2 l lo l.length).bind m=some r) (k:∀l':List α,m l'=some r->K (g l')):Oh (g l) lo (g l).length K:=A14 i.eq (i.eq l) h k
theorem Afe {f:α->AV} {K:List AV->Prop} (h:(E2 l lo l.length).bind m=some r) (k:∀l':List α,m l'=some r->K (l'.map f)) (he:ys=l.map f:=by first|exact rfl|exact Ll _|exact Lm _|exact K1 _):Oh ys lo ys.length K:=Apk he h k
theorem Ft {step:S->Option (S⊕E)} {b:Code} (h:(An step s0).bind J=some r) (iv:S->List (Nat×AV)) (hv:S->List (Nat×Bs)) (inv:S->Prop) (body:∀(s:S) (u:Nat->Value) (K:Nat->B7->Hp->Prop) (o:S⊕E),step s=some o->(∀x,.inr x=o->J x=some r)->(∀s' n' e' H',.inl s'=o->H5 e' (iv s')->H6 H' (Ct H (hv s')) n n->inv s'->K n' e' H')->inv s -> wc P C b K Qe Qr n (Ky (Gc b) e u (iv s)) (Ct H (hv s))) (hb:∀s,Lg n (iv s) (hv s)=true:=by exact λ_=>rfl) (hs:H5 e (iv s0):=by (repeat refine⟨rfl,?_⟩);exact trivial) (hh:H6 H (Ct H (hv s0)) n n:=by (repeat refine⟨⟨rfl,rfl⟩,?_⟩);exact trivial) (h0:inv s0:=by first|exact rfl|assumption|exact Iw (by assumption) | ((repeat refine Jc ?_ _ _);first|exact rfl|assumption)):wc P C (.loop b) Qn Qe Qr n e H:=Aps h iv hv inv hb hs hh h0 body
theorem Aqm {step:S->Option (S⊕E)} {b:Code} (h:(An step s0).bind J=some r) (iv:S->List (Nat×AV)) (hv:S->List (Nat×Bs)) (body:∀(s:S) (u:Nat->Value) (K:Nat->B7->Hp->Prop) (o:S⊕E),step s=some o->(∀x,.inr x=o->J x=some r)->(∀s' n' e' H',.inl s'=o->H5 e' (iv s')->H6 H' (Ct H (hv s')) n n->True->K n' e' H') -> wc P C b K Qe Qr n (Ky (Gc b) e u (iv s)) (Ct H (hv s))) (hb:∀s,Lg n (iv s) (hv s)=true:=by exact λ_=>rfl) (hs:H5 e (iv s0):=by (repeat refine⟨rfl,?_⟩);exact trivial) (hh:H6 H (Ct H (hv s0)) n n:=by (repeat refine⟨⟨rfl,rfl⟩,?_⟩);exact trivial):wc P C (.loop b) Qn Qe Qr n e H:=Aps h iv hv (λ_=>True) hb hs hh trivial λs u K o h1 h2 h3 _=>body s u K o h1 h2 h3
theorem Aff {S':Type} {c:Code} {o:Option S'} {m:S'->Option β} (inj:S->S') (h:o.bind m=some r) (iv:S->List (Nat×AV)) (hv:S->List (Nat×Bs)) (k1:∀x,o=some x->∀(K:Nat->B7->Hp->Prop),(∀s n' e' H',inj s=x->H5 e' (iv s)->H6 H' (Ct H (hv s)) n n->K n' e' H')->(∀y,y=x->m y=some r)->wc P C c K Qe Qr n e H) (k2:∀(s:S) (u:Nat->Value),m (inj s)=some r->Qn n (Ky (Gc c) e u (iv s)) (Ct H (hv s))) (hb:∀s,Lg n (iv s) (hv s)=true:=by exact λ_=>rfl):wc P C c Qn Qe Qr n e H := Apd h λx hx hj=>Wl (λs=>inj s=x) iv hv hb (λK hK=>k1 x hx K hK hj) λs u hs=>k2 s u (hj _ hs)
theorem Ms {c:Code} {o:Option S} {m:S->Option β} (h:o.bind m=some r) (iv:S->List (Nat×AV)) (hv:S->List (Nat×Bs)) (k1:∀x,o=some x->∀(K:Nat->B7->Hp->Prop),(∀s n' e' H',s=x->H5 e' (iv s)->H6 H' (Ct H (hv s)) n n->K n' e' H')->(∀y,y=x->m y=some r)->wc P C c K Qe Qr n e H) (k2:∀(s:S) (u:Nat->Value),m s=some r->Qn n (Ky (Gc c) e u (iv s)) (Ct H (hv s))) (hb:∀s,Lg n (iv s) (hv s)=true:=by exact λ_=>rfl):wc P C c Qn Qe Qr n e H:=Aff (λs=>s) h iv hv k1 k2 hb
abbrev C0:Cfg:={T:=Cs,an:=λ_=>.ask}
theorem pw {f:FuncId} {c:Code} {args:List AV} {r:AV} (C:Cfg) (hf:prog.funcs[f]? = some fn) (hv:wc prog C c (λ_ e H=>T0 C.T fn.results.toList (· = r) e H) (λ_ _ _ _=>False) (λ_ e H=>T0 C.T fn.results.toList (· = r) e H) 0 (Wi args) H0) (hT:C.T=Cs:=by exact rfl) (hb:fn.body=some c:=by exact rfl) (hname:(fn.name == "runtime.NumGoroutine")=false:=by kernel_rfl) (hok:Wj fn c args.length=true:=by kernel_rfl) (hfree:r.free=true:=by exact rfl):A6 prog f args r:=A2b (by rw[hT];exact Apx) Y3 hf hb hname hok hfree hv
theorem aw {f:FuncId} {c:Code} {args:List AV} {r:AV} {hs':List Bs} (C:Cfg) (fz:Bool) (hf:prog.funcs[f]? = some fn) (hv:wc prog C c (λ_ e H=>T3 C.T fz fn.results.toList r hs' e H) (λ_ _ _ _=>False) (λ_ e H=>T3 C.T fz fn.results.toList r hs' e H) hs.length (Wi args) (hp hs)) (hT:C.T=Cs:=by exact rfl) (hb:fn.body=some c:=by exact rfl) (hname:(fn.name == "runtime.NumGoroutine")=false:=by kernel_rfl) (hok:Wj fn c args.length=true:=by kernel_rfl) (hok':Ajj hs r hs'=true:=by exact rfl):Bq prog f args hs r hs':=A2c fz (by rw[hT];exact Apx) Y3 hf hb hname hok hok' hv
end
variable {P Q:Prop}
theorem opk {P:Program} {T:Dd} {an:Nat->Ann} {nl:Nat->List (Nat×Nat)} {o:Oper} {n:Nat} {e:B7} {H:Hp} {acc:Ju} {K:Nat->B7->Hp->Ju->Prop} (k:opK P T an nl o n e H acc K):opK P T an nl o n e H acc K:=k
theorem cnd {t:Bool} {A B:Prop} (k:bif t then A else B):bif t then A else B:=k
structure Hd (Q:Prop):Prop where
 get:Q
theorem Z (k:Q) (h:Hd Q->P:=by
  intro q
  repeat first
    | ((with_reducible show Gd (F0 _ _ _ _ _ (_::_) _ _ _ _ _));(first|refine nx ?_|refine Ry ?_|refine Rx ?_))
    | ((with_reducible refine opk ?_);conv=>whnf
       first
      | ((with_reducible show Gd _);refine nw ?_)
      | ((with_reducible show Jb _ _ _);refine Jb.mk _ rfl ?_)
      | ((with_reducible show Oj _ _);refine Sw ?_)
      | ((with_reducible show Nb _ _ _ _);refine Sz ?_)
      | ((with_reducible show Hz _ _ _);(first|refine Sx ?_|refine Sy ?_)))
    | ((with_reducible show Gd (F0 _ _ _ _ _ [] _ _ _ _ _));refine Ni ?_)
    | ((with_reducible show Gd (wc _ _ _ _ _ _ _ _ _));refine nw ?_)
    | with_reducible refine Bb ?_
    | with_reducible refine Hj ?_
    | with_reducible refine Ajs ?_
    | with_reducible refine Mm ?_
    | with_reducible refine L0 ?_
    | with_reducible refine H7 ?_
    | with_reducible refine App ?_
    | with_reducible refine Aju ?_
    | with_reducible refine Ajt ?_
    | ((with_reducible refine cnd ?_);first|refine H4 rfl ?_|refine Aje rfl ?_)
    | ((with_reducible show Om _ _ _);refine Om.mk κ ?_)
    | ((with_reducible show wc _ _ (.cond _ _ _) _ _ _ _ _ _);first|refine Aea ?_|refine Aeb ?_)
    | refine nw ?_
    | refine nx ?_
    | refine Ni ?_
    | refine Ry ?_
    | refine Rx ?_
    | (conv=>whnf
       first
      | ((with_reducible show Gd _);refine nw ?_)
      | ((with_reducible show Jb _ _ _);refine Jb.mk _ rfl ?_)
      | ((with_reducible show Oj _ _);refine Sw ?_)
      | ((with_reducible show Nb _ _ _ _);refine Sz ?_)
      | ((with_reducible show Hz _ _ _);(first|refine Sx ?_|refine Sy ?_)))
  exact q.get):P:=h ⟨k⟩
theorem ZS (k:Q) (h:Hd Q->P:=by
  intro q
  repeat first
    | ((with_reducible show Gd (F0 _ _ _ _ _ (_::_) _ _ _ _ _));(first|refine nx ?_|refine Ry ?_|refine Rx ?_))
    | ((with_reducible refine opk ?_);conv=>whnf
       first
      | ((with_reducible show Gd _);refine nw ?_)
      | ((with_reducible show Jb _ _ _);refine Jb.mk _ rfl ?_)
      | ((with_reducible show Oj _ _);refine Sw ?_)
      | ((with_reducible show Nb _ _ _ _);refine Sz ?_)
      | ((with_reducible show Hz _ _ _);(first|refine Sx ?_|refine Sy ?_)))
    | ((with_reducible show Gd (F0 _ _ _ _ _ [] _ _ _ _ _));refine Ni ?_)
    | ((with_reducible show Gd (wc _ _ _ _ _ _ _ _ _));refine nw ?_)
    | with_reducible refine Bb ?_
    | with_reducible refine Ajs ?_
    | with_reducible refine Mm ?_
    | with_reducible refine L0 ?_
    | with_reducible refine H7 ?_
    | with_reducible refine Aju ?_
    | with_reducible refine Ajt ?_
    | ((with_reducible refine cnd ?_);first|refine H4 rfl ?_|refine Aje rfl ?_)
    | ((with_reducible show Om _ _ _);refine Om.mk κ ?_)
    | ((with_reducible show wc _ _ (.cond _ _ _) _ _ _ _ _ _);first|refine Aea ?_|refine Aeb ?_)
    | refine nw ?_
    | refine nx ?_
    | refine Ni ?_
    | refine Ry ?_
    | refine Rx ?_
    | (conv=>whnf
       first
      | ((with_reducible show Gd _);refine nw ?_)
      | ((with_reducible show Jb _ _ _);refine Jb.mk _ rfl ?_)
      | ((with_reducible show Oj _ _);refine Sw ?_)
      | ((with_reducible show Nb _ _ _ _);refine Sz ?_)
      | ((with_reducible show Hz _ _ _);(first|refine Sx ?_|refine Sy ?_)))
  exact q.get):P:=h ⟨k⟩
theorem ZO (k:Q) (h:Hd Q->P:=by
  intro q
  repeat first
    | ((with_reducible show Gd (F0 _ _ _ _ _ (_::_) _ _ _ _ _));(first|refine nx ?_|refine Ry ?_|refine Rx ?_))
    | ((with_reducible refine opk ?_);conv=>whnf
       first
      | ((with_reducible show Jb _ _ _);refine Jb.mk _ rfl ?_)
      | ((with_reducible show Oj _ _);refine Sw ?_)
      | ((with_reducible show Nb _ _ _ _);refine Sz ?_)
      | ((with_reducible show Hz _ _ _);(first|refine Sx ?_|refine Sy ?_)))
    | ((with_reducible show Gd (F0 _ _ _ _ _ [] _ _ _ _ _));refine Ni ?_)
    | ((with_reducible show Om _ _ _);refine Om.mk κ ?_)
    | refine nx ?_
    | refine Ni ?_
    | refine Ry ?_
    | refine Rx ?_
    | (conv=>whnf
       first
      | ((with_reducible show Jb _ _ _);refine Jb.mk _ rfl ?_)
      | ((with_reducible show Oj _ _);refine Sw ?_)
      | ((with_reducible show Nb _ _ _ _);refine Sz ?_)
      | ((with_reducible show Hz _ _ _);(first|refine Sx ?_|refine Sy ?_)))
  exact q.get):P:=h ⟨k⟩
theorem Y (h:P:=by
  repeat' first
    | ((with_reducible show Gd (F0 _ _ _ _ _ (_::_) _ _ _ _ _));first|refine nx ?_|refine Ry ?_|refine Rx ?_|refine Hs h (λ_ h=>?_) (λ_ h=>?_))
    | ((with_reducible refine opk ?_);conv=>whnf
       first
      | ((with_reducible show Gd _);refine nw ?_)
      | ((with_reducible show Jb _ _ _);refine Jb.mk _ rfl ?_)
      | ((with_reducible show Oj _ _);refine Sw ?_)
      | ((with_reducible show Fz _ _ _ _ _ _);(first|refine Sv h (λ_ h=>?_) | refine Aqg h (λ_ h=>?_)))
      | ((with_reducible show Wa _ _ _);refine Pu h (λ_ _ _ _ h=>?_))
      | ((with_reducible show Tw _ _ _ _ _);(first|refine Jw h (λ_ _ _ _ h=>?_) | refine Nx h (λ_ _ _ _ h=>?_)))
      | ((with_reducible show Nb _ _ _ _);refine Sz ?_)
      | ((with_reducible show Wc _ _ _ _);refine Aqh ?_)
      | ((with_reducible show Oi _ _ _ _ _ _ _);(first|refine Aqi h (λ_ h=>?_) | refine Lo h (λ_ h=>?_) | refine Akn h (λ_ h=>?_)))
      | ((with_reducible show Tx _ _ _);(first|refine Aqj h (λ_ h=>?_) | refine Aqk h (λ_ h=>?_)))
      | ((with_reducible show Wb _ _ _ _ _);refine Jf h (λ_ h=>?_))
      | ((with_reducible show Oh _ _ _ _);(first|refine Xq h (λ_ h=>?_) | refine Afe h (λ_ h=>?_) | refine Aql h (λ_ h=>?_) | refine Ow h (λ_ h=>?_)))
      | ((with_reducible show Hz _ _ _);(first|refine Sx ?_|refine Sy ?_))
      | ((with_reducible show Adn _ _ _);refine Y9 h (λ_ h=>?_))
      | ((with_reducible show Adi _ _ _ _);refine Y8 h (λ_ h=>?_))
      | ((with_reducible show Adj _ _ _);refine Ad8 h (λ_ h=>?_))
      | ((with_reducible show Ai0 _ _ _ _);refine ob_shl h (λ_ h=>?_))
      | ((with_reducible show Adk _ _ _ _);refine Apn h (λ_ h=>?_))
      | ((with_reducible show Adl _ _ _ _);refine Ajq h (λ_ _ _ _ h=>?_))
      | ((with_reducible show Ado _ _);refine Ix h (λh=>?_))
      | ((with_reducible show Ai1 _ _);refine ob_str h (λ_ h=>?_))
      | ((with_reducible show Adp _ _ _ _ _);refine Api h (λ_ h=>?_))
      | ((with_reducible show Adq _ _ _ _);refine Apj h (λ_ h=>?_)))
    | ((with_reducible show Gd (F0 _ _ _ _ _ [] _ _ _ _ _));refine Ni ?_)
    | ((with_reducible show Gd (wc _ _ _ _ _ _ _ _ _));refine nw ?_)
    | with_reducible refine Bb ?_
    | with_reducible refine Hj ?_
    | with_reducible refine Ajs ?_
    | with_reducible refine Mm ?_
    | with_reducible refine L0 ?_
    | with_reducible refine H7 ?_
    | with_reducible refine App ?_
    | with_reducible refine Aju ?_
    | with_reducible refine Ajt ?_
    | ((with_reducible refine cnd ?_);first|refine H4 rfl ?_|refine Aje rfl ?_)
    | ((with_reducible show wc _ _ (.cond _ _ _) _ _ _ _ _ _);first|refine Em h (λ_ h=>?_) (λ_ h=>?_) | refine Aea ?_|refine Aeb ?_)
    | ((with_reducible show Om _ _ _);refine Om.mk κ ?_)
    | refine nx ?_
    | refine Ni ?_
    | refine Ry ?_
    | refine Rx ?_
    | refine Hs h (λ_ h=>?_) (λ_ h=>?_)
    | exact lpn h
    | exact jnn h
    | replace h:=Cu h
    | replace h:=lpj h
    | refine nw ?_
    | (conv=>whnf
       first
      | ((with_reducible show Gd _);refine nw ?_)
      | ((with_reducible show Jb _ _ _);refine Jb.mk _ rfl ?_)
      | ((with_reducible show Oj _ _);refine Sw ?_)
      | ((with_reducible show Fz _ _ _ _ _ _);(first|refine Sv h (λ_ h=>?_) | refine Aqg h (λ_ h=>?_)))
      | ((with_reducible show Wa _ _ _);refine Pu h (λ_ _ _ _ h=>?_))
      | ((with_reducible show Tw _ _ _ _ _);(first|refine Jw h (λ_ _ _ _ h=>?_) | refine Nx h (λ_ _ _ _ h=>?_)))
      | ((with_reducible show Nb _ _ _ _);refine Sz ?_)
      | ((with_reducible show Wc _ _ _ _);refine Aqh ?_)
      | ((with_reducible show Oi _ _ _ _ _ _ _);(first|refine Aqi h (λ_ h=>?_) | refine Lo h (λ_ h=>?_) | refine Akn h (λ_ h=>?_)))
      | ((with_reducible show Tx _ _ _);(first|refine Aqj h (λ_ h=>?_) | refine Aqk h (λ_ h=>?_)))
      | ((with_reducible show Wb _ _ _ _ _);refine Jf h (λ_ h=>?_))
      | ((with_reducible show Oh _ _ _ _);(first|refine Xq h (λ_ h=>?_) | refine Afe h (λ_ h=>?_) | refine Aql h (λ_ h=>?_) | refine Ow h (λ_ h=>?_)))
      | ((with_reducible show Hz _ _ _);(first|refine Sx ?_|refine Sy ?_))
      | ((with_reducible show Adn _ _ _);refine Y9 h (λ_ h=>?_))
      | ((with_reducible show Adi _ _ _ _);refine Y8 h (λ_ h=>?_))
      | ((with_reducible show Adj _ _ _);refine Ad8 h (λ_ h=>?_))
      | ((with_reducible show Ai0 _ _ _ _);refine ob_shl h (λ_ h=>?_))
      | ((with_reducible show Adk _ _ _ _);refine Apn h (λ_ h=>?_))
      | ((with_reducible show Adl _ _ _ _);refine Ajq h (λ_ _ _ _ h=>?_))
      | ((with_reducible show Ado _ _);refine Ix h (λh=>?_))
      | ((with_reducible show Ai1 _ _);refine ob_str h (λ_ h=>?_))
      | ((with_reducible show Adp _ _ _ _ _);refine Api h (λ_ h=>?_))
      | ((with_reducible show Adq _ _ _ _);refine Apj h (λ_ h=>?_)))
    | (have h:=Option.some.inj h;subst h;exact rfl)
    | (cases h;(repeat refine⟨rfl,?_⟩);exact trivial)
    | (cases h;done)
):P:=h
section
variable {P:Program} {C:Cfg} {Qn:Nat->B7->Hp->Prop} {Qe:Nat->Nat->B7->Hp->Prop} {Qr:Nat->B7->Hp->Prop} {n:Nat} {e:B7} {H:Hp} {β:Type} {r:β} {P0 Q:Prop}
variable {t:Bool} {a b:Code} {K:Eff->Nat->Prop} {largs:List AV} {hs:List Bs} {m m':Option β} {S α:Type} {o:Option α} {ra:α->AV} {hs':α->List Bs} {G:α->Prop}
theorem Bg {c:Operand} (h:(bif t then m else m')=some r) (h1:t=true->m=some r->wc P C a Qn Qe Qr n e H) (h2:t=false->m'=some r->wc P C b Qn Qe Qr n e H) (hz:Hd (wc P C (.cond c a b) Qn Qe Qr n e H)->P0:=by exact λq=>Z q.get) (hx:ev e c = .val (.bool t):=by exact rfl):P0:=hz ⟨Em h h1 h2 hx⟩
theorem B8 {c:Operand} (h:(bif t then m else m')=some r) (h2:t=false->m'=some r->wc P C b Qn Qe Qr n e H) (hz:Hd (wc P C (.cond c a b) Qn Qe Qr n e H)->P0:=by exact λq=>Z q.get) (hx:ev e c = .val (.bool t):=by exact rfl) (h1:t=true->m=some r->wc P C a Qn Qe Qr n e H:=by intro _ h;exact Y):P0:=hz ⟨Em h h1 h2 hx⟩
theorem A7 {E:Type} {step:S->Option (S⊕E)} {s0:S} {J:E->Option β} (h:(An step s0).bind J=some r) (iv:S->List (Nat×AV)) (hv:S->List (Nat×Bs)) (body:∀(s:S) (u:Nat->Value) (K:Nat->B7->Hp->Prop) (o:S⊕E),step s=some o->(∀x,.inr x=o->J x=some r)->(∀s' n' e' H',.inl s'=o->H5 e' (iv s')->H6 H' (Ct H (hv s')) n n->True->K n' e' H') -> wc P C b K Qe Qr n (Ky (Gc b) e u (iv s)) (Ct H (hv s))) (hz:Hd (wc P C (.loop b) Qn Qe Qr n e H)->P0:=by exact λq=>Z q.get) (hb:∀s,Lg n (iv s) (hv s)=true:=by exact λ_=>rfl) (hs:H5 e (iv s0):=by (repeat refine⟨rfl,?_⟩);exact trivial) (hh:H6 H (Ct H (hv s0)) n n:=by (repeat refine⟨⟨rfl,rfl⟩,?_⟩);exact trivial):P0:=hz ⟨Aqm h iv hv body hb hs hh⟩
theorem Bf {m:α->Option β} {f:FuncId} {args:List AV} (h:o.bind m=some r) [i:OK o G] (k:∀v,m v=some r->K ⟨ra v,[],[]⟩ n) (hz:Hd (Fz P n H f args K)->P0:=by exact λq=>Z q.get) (hG:∀v,G v->A6 P f args (ra v):=by exact λ_ h=>h) (hf:args.all AV.free=true:=by exact rfl):P0:=hz ⟨Sv h k hG hf⟩
theorem Br {l:List α} {f:α->AV} {ys:List AV} {i:Int} {m:α->Option β} {K:Nat->AV->Prop} (h:(Ag l i).bind m=some r) (k:∀(n:Nat) (x:α),i=n->l[n]? = some x->m x=some r->K n (f x)) (hz:Hd (Wa ys i K)->P0:=by exact λq=>Z q.get) (he:ys=l.map f:=by first|exact rfl|exact Ll _|exact Lm _|exact K1 _):P0:=hz ⟨Ape he h k⟩
theorem C4 {m:α->Option β} {f:FuncId} {args:List AV} (l:List Nat) (h:o.bind m=some r) [i:OK o G] (k:∀v,m v=some r->K ⟨ren (Dq n l) (ra v),Fy (Dq n l) 0 hs++Cp (Dq n l) l.length ((hs' v).length-l.length),Fy (Dq n l) 0 (hs' v)⟩ (n+((hs' v).length-l.length))) (hz:Hd (Fz P n H f args K)->P0:=by exact λq=>Z q.get) (hG:∀v,G v->Bq P f largs hs (ra v) (hs' v):=by exact λ_ h=>h) (ha:largs.map (ren (Dq n l))=args:=by exact rfl) (ok:∀v,Og n l largs hs (ra v) (hs' v)=true:=by exact λ_=>rfl) (hh:Pc H (Fy (Dq n l) 0 hs):=by (repeat refine⟨rfl,?_⟩);exact trivial):P0:=hz ⟨Xp l h k hG ha ok hh⟩
theorem Bx {m:α->Option β} {f:FuncId} {args:List AV} (l:List Nat) (h:o.bind m=some r) [i:OK o G] (hz:Hd (Fz P n H f args K)->P0:=by exact λq=>Z q.get) (hG:∀v,G v->Bq P f largs hs (ra v) (hs' v):=by exact λ_ h=>h) (ha:largs.map (ren (Dq n l))=args:=by exact rfl) (ok:∀v,Og n l largs hs (ra v) (hs' v)=true:=by exact λ_=>rfl) (hh:Pc H (Fy (Dq n l) 0 hs):=by (repeat refine⟨rfl,?_⟩);exact trivial) (k:∀v,m v=some r->K ⟨ren (Dq n l) (ra v),Fy (Dq n l) 0 hs++Cp (Dq n l) l.length ((hs' v).length-l.length),Fy (Dq n l) 0 (hs' v)⟩ (n+((hs' v).length-l.length)):=by
 intro _ h
 exact Y):P0:=hz ⟨Xp l h k hG ha ok hh⟩
theorem Dh {c:Code} {o:Option S} {m:S->Option β} (h:o.bind m=some r) (iv:S->List (Nat×AV)) (hv:S->List (Nat×Bs)) (k2:∀(s:S) (u:Nat->Value),m s=some r->Qn n (Ky (Gc c) e u (iv s)) (Ct H (hv s))) (hb:∀s,Lg n (iv s) (hv s)=true:=by exact λ_=>rfl) (k1:∀x,o=some x->∀(K:Nat->B7->Hp->Prop),(∀s n' e' H',s=x->H5 e' (iv s)->H6 H' (Ct H (hv s)) n n->K n' e' H')->(∀y,y=x->m y=some r)->wc P C c K Qe Qr n e H:=by
 intro _ h _ _ _
 exact Y):wc P C c Qn Qe Qr n e H:=Ms h iv hv k1 k2 hb
theorem ZR {id:Nat} {os:List Oper} (k:Q) (h1:Hd (wc P C (.region id os.toArray false) Qn Qe Qr n e H)->P0:=by exact λq=>ZS q.get) (h2:Hd Q->Gd (F0 P C.T C.an C.nl os.toArray os n e H [] λn e H _=>Qn n e H):=by exact λq=>ZO q.get):P0:=h1 ⟨Hj (h2 ⟨k⟩)⟩
end
set_option maxRecDepth 10000
set_option linter.unusedVariables false
theorem A2s {a0 r:List En} (h:Cg 16 [] a0=some r):A6 prog 213 [Ax 2 Jn a0] (Ax 2 Jn r):=by
 have h:((Cg 16 [] a0).bind λo=>some o)=some r:=by rw[h];rfl
 refine pw {T:=Cs,an:=(λs=>bif Nat.beq s 5 then .own else .ask),nl:=(λs=>bif Nat.beq s 2 then [(0,2)] else [])} func213 ?_;refine Bb ?_;refine Hj ?_;refine ZO ?_;refine Bb (Bb ?_);refine Wl (λb:Bool=>b=true->a0 = []) (λb=>[(4,Aw b)]) (λ_=>[]) (λ_=>rfl) ?_ ?_
 .intro K hK;refine Aec 0 ?_;intro v hv;obtain⟨p,c,rfl,hp⟩:=hv 2 (a0.map Jn) rfl;refine Hj ?_;refine nx ?_;refine nx ?_;refine Ni ?_;refine hK p.isNone _ _ _ (λe=>?_) ⟨rfl,trivial⟩ trivial;cases p with| none=>simpa using hp rfl| some _=>cases e
 .rintro b _ hb;cases b with
  | true=>have hb:=hb rfl;subst hb;have h:some ([]:List En)=some r:=(by rw[<-h];rfl);exact Y
  | false=>refine Z ?_;exact Y
theorem A2t {a0:List Bh} {r:List Bh×List Bh} (h:Qk 40 a0=some r):Bq prog 74 [Ax 3 F5 a0] [] (.arr 1 r.2.length 0 r.2.length) [.rows 71 3 (r.1.map F5),.rows 71 3 (r.2.map F5)]:=by
 have h:((Cg 40 [] a0).bind λo=>some (([]:List Bh),o))=some r:=h;refine aw {T:=Cs,an:=(λs=>bif Nat.beq s 5 then .own else bif Nat.beq s 2 then .own else .ask),nl:=(λ_=>[])} false func74 ?_;refine Bb ?_;refine Hj ?_;refine ZO ?_;refine Bb (Bb ?_);refine Wl (λb:Bool=>b=true->a0 = []) (λb=>[(4,Aw b)]) (λ_=>[]) (λ_=>rfl) ?_ ?_
 .intro K hK;refine Aec 0 ?_;intro v hv;obtain⟨p,c,rfl,hp⟩:=hv 3 (a0.map F5) rfl;refine Hj ?_;refine nx ?_;refine nx ?_;refine Ni ?_;refine hK p.isNone _ _ _ (λe=>?_) ⟨rfl,trivial⟩ ⟨⟨rfl,rfl⟩,trivial⟩;cases p with| none=>simpa using hp rfl| some _=>cases e
 .rintro b _ hb;cases b with
  | true=>have hb:=hb rfl;subst hb;have h:some (([]:List Bh),([]:List Bh))=some r:=(by rw[<-h];rfl);cases h;refine ZO ?_;exact Y
  | false=>refine Z ?_;refine ZO ?_;refine Lo h (λ_ h=>?_);exact Y
theorem A2u {a0:List Bi} {r:List Bi×List Bi} (h:Qk 40 a0=some r):Bq prog 80 [Ax 3 F6 a0] [] (.arr 1 r.2.length 0 r.2.length) [.rows 77 3 (r.1.map F6),.rows 77 3 (r.2.map F6)]:=by
 have h:((Cg 40 [] a0).bind λo=>some (([]:List Bi),o))=some r:=h;refine aw {T:=Cs,an:=(λs=>bif Nat.beq s 5 then .own else bif Nat.beq s 2 then .own else .ask),nl:=(λ_=>[])} false func80 ?_;refine Bb ?_;refine Hj ?_;refine ZO ?_;refine Bb (Bb ?_);refine Wl (λb:Bool=>b=true->a0 = []) (λb=>[(4,Aw b)]) (λ_=>[]) (λ_=>rfl) ?_ ?_
 .intro K hK;refine Aec 0 ?_;intro v hv;obtain⟨p,c,rfl,hp⟩:=hv 3 (a0.map F6) rfl;refine Hj ?_;refine nx ?_;refine nx ?_;refine Ni ?_;refine hK p.isNone _ _ _ (λe=>?_) ⟨rfl,trivial⟩ ⟨⟨rfl,rfl⟩,trivial⟩;cases p with| none=>simpa using hp rfl| some _=>cases e
 .rintro b _ hb;cases b with
  | true=>have hb:=hb rfl;subst hb;have h:some (([]:List Bi),([]:List Bi))=some r:=(by rw[<-h];rfl);cases h;refine ZO ?_;exact Y
  | false=>refine Z ?_;refine ZO ?_;refine Lo h (λ_ h=>?_);exact Y
theorem A2v {a0:List Ai} {r:List Ai×List Ai} (h:Qk 32 a0=some r):Bq prog 294 [Ax 2 Fe a0] [] (.arr 1 r.2.length 0 r.2.length) [.rows 69 2 (r.1.map Fe),.rows 69 2 (r.2.map Fe)]:=by
 have h:((Cg 32 [] a0).bind λo=>some (([]:List Ai),o))=some r:=h;refine aw {T:=Cs,an:=(λs=>bif Nat.beq s 5 then .own else bif Nat.beq s 2 then .own else .ask),nl:=(λ_=>[])} false func294 ?_;refine Bb ?_;refine Hj ?_;refine ZO ?_;refine Bb (Bb ?_);refine Wl (λb:Bool=>b=true->a0 = []) (λb=>[(4,Aw b)]) (λ_=>[]) (λ_=>rfl) ?_ ?_
 .intro K hK;refine Aec 0 ?_;intro v hv;obtain⟨p,c,rfl,hp⟩:=hv 2 (a0.map Fe) rfl;refine Hj ?_;refine nx ?_;refine nx ?_;refine Ni ?_;refine hK p.isNone _ _ _ (λe=>?_) ⟨rfl,trivial⟩ ⟨⟨rfl,rfl⟩,trivial⟩;cases p with| none=>simpa using hp rfl| some _=>cases e
 .rintro b _ hb;cases b with
  | true=>have hb:=hb rfl;subst hb;have h:some (([]:List Ai),([]:List Ai))=some r:=(by rw[<-h];rfl);cases h;refine ZO ?_;exact Y
  | false=>refine Z ?_;refine ZO ?_;refine Lo h (λ_ h=>?_);exact Y
end Go.Ab
namespace Go.Ab
open Go Go.Proofs Go.Shelf Go.Proofs.Tryz
set_option maxRecDepth 100000
set_option linter.unusedVariables false
variable {F σ:A5} {ι:Cf} {H:Hp} {w:World}
def A2w:Ren:={f:=λx=>match x with|189=>53|125=>111|257=>110|128=>181|129=>182|294=>172|295=>173|296=>174|297=>175|298=>176|299=>177|216=>178|300=>179|301=>180|328=>245|329=>246|330=>247|331=>248|332=>249|215=>210|343=>285|n=>n,t:=λx=>match x with|28=>56|3=>3|46=>176|0=>0|51=>118|53=>160|4=>4|183=>251|182=>250|131=>132|5=>5|9=>9|218=>317|222=>101|228=>360|229=>361|n=>n,g:=λn=>n}
theorem A2x:Lays.n189 prog A2w:=by
 constructor;all_goals first|kernel_rfl | (intro w;kernel_rfl) | constructor
 all_goals first|kernel_rfl | (intro w;kernel_rfl)
theorem C5.up {w':World} {x:Nat} (h:C5 σ ι H F w x) (hk:∀(b:Nat) (o:Obj),w.heap[b]? = some o->w'.heap[b]? = some o):C5 σ ι H F w' x:=by
 unfold C5 at h ⊢;cases hx:H x with
 | none=>rw[hx]at h;exact h
 | dead=>trivial
 | cells E cs=>rw[hx]at h;obtain⟨b,C,h1,h2,h3,g,f⟩:=h;exact⟨b,C,h1,h2,h3,hk _ _ g,f⟩
 | rows E sz xs=>
  rw[hx]at h;obtain⟨h0,h1,h2⟩:=h;refine⟨h0,h1,?_⟩;rcases h2 with h2|⟨b,c,C,q,l,k,j,i⟩
  .exact .inl h2
  .exact .inr ⟨b,c,C,q,l,k,hk _ _ j,i⟩
 | map es=>rw[hx]at h;obtain⟨b,M,t,h1,h2,h3,g,f⟩:=h;exact⟨b,M,t,h1,h2,h3,hk _ _ g,f⟩
theorem St.growG {W:World} (s:St σ ι H F W w) (k:Nat) (os:Array Obj):St σ ι H F W (Sort.grow (Sort.ahead w k) os):=by
 have hk:∀(b:Nat) (o:Obj),w.heap[b]? = some o->(Sort.grow (Sort.ahead w k) os).heap[b]? = some o:=by intro b o h;have c:=(Array.getElem?_eq_some_iff.1 h).1;show (w.heap++os)[b]? = _;rw[Array.getElem?_append_left c];exact h
 exact⟨λb o h=>hk b o (s.sto b o h),λb o h=>⟨hk b o (s.fra b o h).1,(s.fra b o h).2⟩,λh=>(s.obj h).up hk,s.inj,s.os,s.tape,s.output,s.glo,Nat.le_trans s.drw (Nat.le_add_right _ _)⟩
theorem Aqn {α:Type} [Inhabited α] (enc:α->Value) (w:World) (b:Nat) (d:Array α) (C:Array Value) (E:TypeId) (h:w.heap[b]? = some (.cells C E (0,0))):Sort.putRow enc w b 0 d=w.setRow b (Sort.putCells enc 0 d C):=by
 have c:(Sort.putRow enc w b 0 d).heap=(w.setRow b (Sort.putCells enc 0 d C)).heap:=by
  apply Array.ext_getElem?;intro i;simp only[Sort.putRow,Sort.mapBlock,World.setRow,Array.getElem?_modify];split
  .rename_i e;subst e;rw[h];simp[Sort.onCells]
  .rfl
 unfold Sort.putRow Sort.mapBlock World.setRow at c ⊢;simp only at c;rw[c]
theorem A2y {b r:List Int} (h:Apb b=some r) (M:b≠[]):Bq prog 53 [.arr 0 b.length 0 b.length] [.rows 3 1 (map (O .i64) b)] (.tup []) [.rows 3 1 (map (O .i64) r)]:=by
 cases h
 .skip;refine⟨⟨_,func53,κ,κ⟩,λσ F W w ι vs s J=>?_⟩;obtain⟨v,rfl,hv⟩:=Vb J;have hh:hp [.rows 3 1 (map (O .i64) b)] 0 = .rows 3 1 (map (O .i64) b):=rfl;have l:=hv.arr_inv hh ψ;have hor:=s.obj 0;unfold C5 at hor;rw[hh]at hor;obtain⟨_,G,hor⟩:=hor;rw[length_map]at G;rcases hor with⟨_,E⟩|⟨g,q,D,hg,g1,g2,g3,g4,g5,g6⟩
  .exact (M (by simpa using E)).elim
  .rw[length_map]at g5;unfold Hq at l;rw[hg]at l;simp only[Nat.zero_mul,Nat.zero_add,Nat.sub_zero]at l;obtain⟨ht,B⟩:=l;subst B;have k:∀(j:Nat) (x:Int),b[j]? = some x->D[j]? = some (Value.int .i64 x):=(by intro j x hx;obtain⟨Y,q1,q2,Z⟩:=g6;have A:(map (O .i64) b)[j]? = some (O .i64 x):=(by rw[getElem?_map,hx];rfl);have N:j<(map (O .i64) b).length:=(List.getElem?_eq_some_iff.1 A).1;have V:=Z j 0 N ω;have U:=(q2 j _ 0 _ A rfl).1;have:Y j 0=Value.int .i64 x:=(by generalize Y j 0=z at U;cases U;rfl);rw[this]at V;simpa using V);have hH:Sort.Holds (Value.int .i64) w g 0 b.toArray:=by
    intro j hj;have hj':j<b.length:=(by simpa using hj);have hx:b[j]? = some b[j]:=getElem?_eq_getElem hj';have hD:=k j _ hx;have e1:b.toArray[j]! = b[j]:=(by rw[getElem!_pos b.toArray j hj];simp);rw[e1];refine⟨?_,?_⟩
    .rw[Nat.zero_add,Kj g3];exact hD
    .simp[World.frozen?,g3]
   have call:=Any.slices_Sort_int A2x g 0 q b w hH (Array.getElem?_eq_some_iff.1 g3).1 ω;refine call.mono ?_;rintro e w' ⟨rfl,n,os,rfl⟩;generalize hr:b.mergeSort (λx y=>decide (x<=y))=r;have I:r.length=b.length:=(by rw[<-hr];exact length_mergeSort b);have L:(Sort.putCells (Value.int .i64) 0 r.toArray D).size=q*1:=(by unfold Sort.putCells;rw[Array.size_mapIdx];exact g4);obtain⟨s',le⟩:=s.setRows 0 3 1 _ (map (O .i64) r) hh g q hg (by simp[I]) (Sort.putCells (Value.int .i64) 0 r.toArray D) L (by
    refine⟨λi _=>match r[i]? with|some z=>.int .i64 z|none=>.bool false,?_,?_,?_⟩
    .intro i x hx;rw[getElem?_map]at hx;obtain⟨z,X,rfl⟩:=Option.map_eq_some_iff.1 hx;rfl
    .intro i x j c hx f;rw[getElem?_map]at hx;obtain⟨z,X,rfl⟩:=Option.map_eq_some_iff.1 hx;have f:([O .i64 z]:List AV)[j]? = some c:=f
     match j with| 0=>cases f;simp only[X];exact⟨.val _,rfl⟩| j+1=>simp at f
    .intro i j hi hj;have R:j=0:=ω;subst R;have u:i<r.length:=(by simpa using hi);have S:i<D.size:=(by rw[g4];omega);simp only[Nat.mul_one,Nat.add_zero,getElem?_eq_getElem u];unfold Sort.putCells;rw[Array.getElem?_mapIdx,Array.getElem?_eq_getElem S];simp only[Option.map_some,Nat.zero_le,true_and,Nat.zero_add,size_toArray,u,if_true,Nat.sub_zero];congr 2;rw[getElem!_pos r.toArray i (by simpa using u)];simp)
   have eH:A9 (hp [.rows 3 1 (map (O .i64) b)]) 0 (.rows 3 1 (map (O .i64) r))=hp [.rows 3 1 (map (O .i64) r)]:=by
    funext i
    match i with| 0=>rfl| i+1=>rfl
   rw[eH]at le s';have eW:Sort.grow (Sort.putRow (Value.int .i64) (Sort.ahead w n) g 0 r.toArray) os=Sort.grow (Sort.ahead (w.setRow g (Sort.putCells (Value.int .i64) 0 r.toArray D)) n) os:=(by rw[Aqn (Value.int .i64) (Sort.ahead w n) g r.toArray D 3 g3];rfl);rw[eW];exact⟨_,σ,ι,rfl,le,s'.growG n os,.tup _ _ rfl (λi c v h1 _=>by cases h1)⟩
end Go.Ab
namespace Go.Ab
open Go Go.Proofs Go.Shelf Go.Sort Go.Proofs.Tryz
set_option maxRecDepth 100000
set_option linter.unusedVariables false
variable {σ:A5} {g:Nat} {α:Type} {v:Value} {r:List α} {eA:α->AV} {cmp:α->α->Option Int}
theorem A2z (h:Fg v=true):v.oneCell'=true:=by cases v <;> first|rfl|cases h
theorem A20 {ι:Cf} {H:Hp} {f:FuncId} (h:Conc σ ι H (.fn f []) v):v = .func (.func f) #[] #[]:=by cases h with| cc h=>cases h| fn _ _ vs b _=>have:vs = #[]:=Array.size_eq_zero_iff.1 (by simpa using b);rw[this]
def Aqo (σ:A5) (eA:α->AV) (sz:Nat) (S:List α) (x:α) (c:List Value):Prop := x∈S/\(eA x).cells.length=sz/\c.length=sz/\∀(j:Nat) (a:AV) (v:Value),(eA x).cells[j]? = some a->c[j]? = some v->CC σ a v/\Fg v=true
abbrev Pv {α:Type} (σ:A5) (eA:α->AV) (sz:Nat) (S:List α):Type:={p:α×List Value // Aqo σ eA sz S p.1 p.2}
theorem A21 {W w':World} (g:∀b o,W.heap[b]? = some o->σ b=some o) (s:St σ ι0 H0 (λ_=>none) W w'):∃q f,w'=grow (W.drewN q) f:=by
 have hk:∀b o,W.heap[b]? = some o->w'.heap[b]? = some o:=λb o h=>s.sto b o (g b o h);have j:W.heap.size<=w'.heap.size:=by
  rcases Nat.eq_zero_or_pos W.heap.size with h|h
  .omega
  .have:=hk (W.heap.size-1) _ (Array.getElem?_eq_getElem ω);have:=(Array.getElem?_eq_some_iff.1 this).1;omega
 refine⟨w'.drawn-W.drawn,w'.heap.extract W.heap.size w'.heap.size,?_⟩;have c:w'.heap=W.heap++w'.heap.extract W.heap.size w'.heap.size:=by
  apply Array.ext_getElem?;intro i;by_cases hi:i<W.heap.size
  .rw[Array.getElem?_append_left hi,Array.getElem?_eq_getElem hi];exact hk i _ (Array.getElem?_eq_getElem hi)
  .rw[Array.getElem?_append_right ω];by_cases hj:i<w'.heap.size
   .rw[Array.getElem?_eq_getElem hj,Array.getElem?_eq_getElem ζ];simp only[Array.getElem_extract];congr 2;omega
   .rw[Array.getElem?_eq_none ω,Array.getElem?_eq_none ζ]
 have h1:=s.os;have h2:=s.tape;have h3:=s.output;have k:=s.drw;cases w' with| mk heap tape drawn os output=>simp only at h1 h2 h3 k c;unfold grow World.drewN;simp only[World.mk.injEq];exact⟨c,h2,ω,h1,h3⟩
theorem Aqp {ρ:Ren} {E:TypeId} {sz f:Nat} (L:SlLaysF0.n6 prog ρ) (hf:ρ.f 6=f) (a6:Adh prog f) (aE:∀w,(isAgg (ρ.t 24)).run prog w = .ok true w) (zE:∀w,(Go.sizeOf (ρ.t 24)).run prog w = .ok sz w) (eg:∀args w,(callFunc g args).run prog w = .ok (.enter g args) w) (ax:∀x y n,cmp x y=some n->A6 prog g [eA x,eA y] (O .i64 n)) (az:∀x,∃cs,eA x = .agg cs) {l:List α} (h:Qj cmp l=some r) (aj:l≠[]) : Bq prog f [.arr 0 l.length 0 l.length,.fn g []] [.rows E sz (l.map eA)] (.tup []) [.rows E sz (r.map eA)]:=by
 obtain⟨cf,law,bb,G,A⟩:=A2f h;refine⟨a6,λσ F W w ι vs s av=>?_⟩;obtain⟨v,v2,rfl,hv,b5⟩:=Akm av;obtain rfl:=A20 b5;have hh:hp [.rows E sz (l.map eA)] 0 = .rows E sz (l.map eA):=rfl;have N:=hv.arr_inv hh ψ;have hor:=s.obj 0;unfold C5 at hor;rw[hh]at hor;obtain⟨S,am,hor⟩:=hor;rw[length_map]at am;rcases hor with⟨_,ah⟩|⟨b,U,D,hb,g1,g2,g3,g4,g5,g6⟩
 .exact (aj (by simpa using ah)).elim
 rw[length_map]at g5;unfold Hq at N;rw[hb]at N;simp only[Nat.zero_mul,Nat.sub_zero]at N;obtain⟨ht,aa⟩:=N;subst aa;obtain⟨gg,q1,q2,q3⟩:=g6;have a8:∀(i:Nat) (x:α),l[i]? = some x->(l.map eA)[i]? = some (eA x):=λi x hx=>by rw[getElem?_map,hx];rfl
 have Z:∀(i:Nat) (hi:i<l.length),Aqo σ eA sz l l[i] ((range sz).map (gg i)):=by intro i hi;have hx:l[i]? = some l[i]:=getElem?_eq_getElem hi;refine⟨getElem_mem hi,q1 i _ (a8 i _ hx),ψ,λj a v ha hv=>?_⟩;rw[getElem?_map,Option.map_eq_some_iff]at hv;obtain⟨k,hk,rfl⟩:=hv;have b9:k=j:=(by have:=(List.getElem?_eq_some_iff.1 hk).2;simpa using this.symm);subst b9;exact q2 i _ k a (a8 i _ hx) ha
 have hpos:0<l.length:=length_pos_iff.2 aj;let d:Array (Pv σ eA sz l):=Array.ofFn λi:Fin l.length=>⟨(l[i.1],(range sz).map (gg i.1)),Z i.1 i.2⟩
 haveI:Inhabited (Pv σ eA sz l):=⟨⟨(l[0],(range sz).map (gg 0)),Z 0 hpos⟩⟩;have B:d.size=l.length:=by simp[d]
 have ba:∀i (hi:i<l.length),d[i]! = ⟨(l[i],(range sz).map (gg i)),Z i hi⟩:=λi hi=>by rw[getElem!_pos d i (by rw[B];exact hi)];simp[d]
 let enc:Pv σ eA sz l->List Value:=λp=>p.1.2
 have hk:∀x:Pv σ eA sz l,(enc x).length=sz:=λx=>x.2.2.2.1;have h1:∀x:Pv σ eA sz l,∀v∈enc x,v.oneCell'=true:=by intro x v hv;obtain⟨j,hj⟩:=getElem?_of_mem hv;have q:=(List.getElem?_eq_some_iff.1 hj).1;rw[hk x]at q;have ha:(eA x.1.1).cells[j]? = some ((eA x.1.1).cells[j]'(by rw[x.2.2.1];exact q)):=getElem?_eq_getElem _;exact A2z (x.2.2.2.2 j _ v ha hj).2
 let a7:Pv σ eA sz l->Pv σ eA sz l->Int:=λx y=>cf x.1.1 y.1.1
 have hO:SWO (ltOf a7):=by
  constructor
  .intro x;exact decide_eq_false (law.irr x.1.1)
  .intro x y z X V;exact decide_eq_true (law.trs _ _ _ (of_decide_eq_true X) (of_decide_eq_true V))
  .intro x y z X V;exact decide_eq_false (law.ntr _ _ _ (of_decide_eq_false X) (of_decide_eq_false V))
 have hH:HoldsK enc sz w b 0 d:=by
  intro t Y;rw[size_flatK,B]at Y;have ac:t / sz<l.length:=Nat.div_lt_of_lt_mul (by rw[Nat.mul_comm];exact Y);have ab:t % sz<sz:=Nat.mod_lt _ S;rw[get_flatK _ _ _ _ (by rw[B];exact Y),ba _ ac];have e:=q3 (t / sz) (t % sz) (by rw[length_map];exact ac) ab;rw[show t / sz*sz+t % sz=t by rw[Nat.mul_comm];exact Nat.div_add_mod t sz]at e;refine⟨?_,?_⟩
  .rw[Nat.zero_add,Kj g3,e];show some _=some (id _);congr 1;show gg _ _=((range sz).map (gg (t / sz)))[t % sz]!;rw[getElem!_pos _ _ (by simpa using ab)];simp
  .simp[World.frozen?,g3]
 have hblk:b<w.heap.size:=(Array.getElem?_eq_some_iff.1 g3).1;have hC:CmpLays prog g #[] enc sz a7 b 0 d.size w:=by
  intro m os dk hs x y;generalize b4:sortWorldK enc sz w b 0 m dk os=R;have ap:∀b' o,σ b'=some o->R.heap[b']? = some o:=(by intro b' o ho;have ai:b≠b':=(by rintro rfl;rw[g1]at ho;cases ho);have e:=s.sto b' o ho;have q:=(Array.getElem?_eq_some_iff.1 e).1;rw[<-b4];show ((w.heap.modify b _)++os)[b']? = _;rw[Array.getElem?_append_left (by simpa using q),Array.getElem?_modify,if_neg ai];exact e);have ar:=bb x.1.1 x.2.1 y.1.1 y.2.1;have hp:=ax _ _ _ ar;have s1:St ((λb=>R.heap[b]?)) ι0 H0 (λ_=>none) R R:=⟨λ_ _ e=>e,(λ_ _ e=>by cases e),λ_=>rfl,(λ_ _ _ hl=>by cases hl),rfl,rfl,rfl,s.glo.mono ap,Nat.le_refl _⟩;have ay:∀z:Pv σ eA sz l,Conc ((λb=>R.heap[b]?)) ι0 H0 (eA z.1.1) (.agg (enc z).toArray):=by
   intro z;obtain⟨cs,au⟩:=az z.1.1;have I:(eA z.1.1).cells=cs:=(by rw[au];rfl);rw[au];refine .cc (.agg _ _ ?_ λi c v hc hv=>?_)
   .rw[<-I,z.2.2.1];simp[hk z]
   .rw[<-I]at hc;exact (z.2.2.2.2 i c v hc (by simpa using hv)).1.mono ap
  refine (hp.2 ((λb=>R.heap[b]?)) (λ_=>none) R R _ s1 ⟨rfl,?_⟩).mono ?_
  .intro i a v ha hv
   match i,ha,hv with| 0,ha,hv=>cases ha;cases hv;exact ay x| 1,ha,hv=>cases ha;cases hv;exact ay y| n+2,ha,hv=>simp at ha
  .rintro e w' ⟨v,σ',rfl,ao,b6,hc⟩;refine⟨?_,?_⟩
   .cases hc with| cc h=>cases h;rfl
   .exact A21 (σ:=σ') (λb o ho=>ao b o ho) b6
 have call:=AnyQ.slices_SortFunc L sz aE zE enc hk h1 a7 hO g #[] b 0 U d w eg hC hH hblk (by rw[B];omega);rw[hf,B]at call;refine call.mono ?_;rintro e w' ⟨rfl,u,n,os,b8,b7,rfl⟩;obtain⟨p1,p2,p3⟩:=b8;have M:u.size=l.length:=by rw[p1,B]
 have J:∀(a:Array (Pv σ eA sz l)),a.size=l.length->(a.extract 0 l.length).toList=a.toList:=λa ha=>by rw[<-ha];simp
 rw[J u M,J d B]at p3;have ak:d.toList.map (λp=>p.1.1)=l:=by
  apply ext_getElem
  .simp[B]
  .intro i bg bf;simp[d]
 have ag:(u.toList.map λp=>p.1.1).Perm l:=by have:=p3.map λp:Pv σ eA sz l=>p.1.1;rwa [ak]at this
 have hR:(u.toList.map λp=>p.1.1).Pairwise λx y=>cf x y<0\/cf y x<0:=by refine ((ag.trans G.symm).pairwise_iff (λ{x y} h=>h.symm)).2 ?_;exact A.imp λh=>.inl h
 have hS:(u.toList.map λp=>p.1.1).Pairwise λx y=>cf x y<0:=by
  rw[pairwise_iff_getElem]at hR ⊢;intro i j hi hj aq;simp only[length_map,Array.length_toList]at hi hj;rcases hR i j (by simpa using hi) (by simpa using hj) aq with h|h
  .exact h
  .have:=b7 i j (Nat.zero_le _) aq ω;rw[getElem!_pos u i hi,getElem!_pos u j hj]at this;have:=of_decide_eq_false this;simp only[getElem_map,Array.getElem_toList]at h;exact (this h).elim
 have af:u.toList.map (λp=>p.1.1)=r:=by refine Perm.eq_of_pairwise (le:=λx y=>cf x y<0) (λx y _ _ h1 h2=>(law.irr x (law.trs _ _ _ h1 h2)).elim) hS A (ag.trans G.symm)
 have ae:r.length=l.length:=G.length_eq;have be:(flatK enc sz u).size=l.length*sz:=by rw[size_flatK,M]
 have b3:(Sort.putCells id 0 (flatK enc sz u) D).size=U*sz:=by unfold Sort.putCells;rw[Array.size_mapIdx];exact g4
 have ad:∀(i:Nat) (x:α),r[i]? = some x->i<u.size/\(u[i]!).1.1=x:=by intro i x hx;rw[<-af,getElem?_map,Option.map_eq_some_iff]at hx;obtain⟨p,hp,rfl⟩:=hx;have q:=(List.getElem?_eq_some_iff.1 hp).1;simp only[Array.length_toList]at q;refine⟨q,?_⟩;rw[getElem!_pos u i q];have:=(List.getElem?_eq_some_iff.1 hp).2;simp only[Array.getElem_toList]at this;rw[this]
 obtain⟨s',le⟩:=s.setRows 0 E sz _ (r.map eA) hh b U hb (by simp[ae]) (Sort.putCells id 0 (flatK enc sz u) D) b3 (by
  refine⟨λi j=>(enc u[i]!)[j]!,?_,?_,?_⟩
  .intro i x hx;rw[getElem?_map]at hx;obtain⟨z,hz,rfl⟩:=Option.map_eq_some_iff.1 hx;obtain⟨e1,e2⟩:=ad i z hz;rw[<-e2];exact (u[i]!).2.2.1
  .intro i x j c hx a1;rw[getElem?_map]at hx;obtain⟨z,hz,rfl⟩:=Option.map_eq_some_iff.1 hx;obtain⟨e1,e2⟩:=ad i z hz;rw[<-e2]at a1;have q:=(List.getElem?_eq_some_iff.1 a1).1;rw[(u[i]!).2.2.1,<-(u[i]!).2.2.2.1]at q;have hg:(u[i]!).1.2[j]? = some ((enc u[i]!)[j]!):=(by rw[getElem?_eq_getElem q,getElem!_pos (enc u[i]!) j q]);exact (u[i]!).2.2.2.2 j c _ a1 hg
  .intro i j hi hj;rw[length_map,ae]at hi;have q:i*sz+j<l.length*sz:=(by have:=Nat.mul_le_mul_right sz (show i+1<=l.length from hi);rw[Nat.add_mul,Nat.one_mul]at this;omega);have hD:i*sz+j<D.size:=(by rw[g4];exact Nat.lt_of_lt_of_le q (Nat.mul_le_mul_right sz g5));unfold Sort.putCells;rw[Array.getElem?_mapIdx,Array.getElem?_eq_getElem hD];simp only[Option.map_some,Nat.zero_le,true_and,Nat.zero_add,be,q,if_true,Nat.sub_zero];congr 1;show id ((flatK enc sz u)[i*sz+j]!)=_;rw[get_flatK _ _ _ _ (by rw[M];exact q)];have e1:(i*sz+j) / sz=i:=(by rw[Nat.mul_comm,Nat.mul_add_div S,Nat.div_eq_of_lt hj,Nat.add_zero]);have e2:(i*sz+j) % sz=j:=(by rw[Nat.mul_comm,Nat.mul_add_mod,Nat.mod_eq_of_lt hj]);rw[e1,e2];rfl);have eH:A9 (hp [.rows E sz (l.map eA)]) 0 (.rows E sz (r.map eA))=hp [.rows E sz (r.map eA)]:=by
  funext i
  match i with| 0=>rfl| i+1=>rfl
 rw[eH]at le s';have eW:sortWorldK enc sz w b 0 n u os=Sort.grow (Sort.ahead (w.setRow b (Sort.putCells id 0 (flatK enc sz u) D)) n) os:=by unfold sortWorldK putRowK;rw[Aqn id (Sort.ahead w n) b (flatK enc sz u) D E g3];rfl
 rw[eW];exact⟨_,σ,ι,rfl,le,s'.growG n os,.tup _ _ rfl (λi c v h1 _=>by cases h1)⟩
def A22:Ren:={f:=λx=>match x with|6=>69|15=>111|14=>133|28=>181|29=>182|20=>202|21=>203|22=>204|23=>205|24=>206|25=>207|26=>208|27=>209|46=>260|47=>246|48=>247|49=>261|50=>262|57=>290|n=>n,t:=λx=>match x with|22=>28|24=>66|25=>135|3=>3|39=>176|0=>0|53=>118|55=>160|4=>4|46=>251|45=>250|50=>132|5=>5|9=>9|66=>317|70=>101|76=>360|77=>361|n=>n,g:=λn=>n}
theorem A23:SlLaysF0.n6 prog A22:=by
 constructor
 case f6=>exact Exists.intro "slices.SortFunc[[]amortcost/api.Term,amortcost/api.Term]" ⟨κ,κ⟩
 case f14=>exact Exists.intro "slices.pdqsortCmpFunc[amortcost/api.Term]" ⟨κ,κ⟩
 case f20=>exact Exists.intro "slices.insertionSortCmpFunc[amortcost/api.Term]" ⟨κ,κ⟩
 case f21=>exact Exists.intro "slices.heapSortCmpFunc[amortcost/api.Term]" ⟨κ,κ⟩
 case f22=>exact Exists.intro "slices.breakPatternsCmpFunc[amortcost/api.Term]" ⟨κ,κ⟩
 case f23=>exact Exists.intro "slices.choosePivotCmpFunc[amortcost/api.Term]" ⟨κ,κ⟩
 case f24=>exact Exists.intro "slices.reverseRangeCmpFunc[amortcost/api.Term]" ⟨κ,κ⟩
 case f25=>exact Exists.intro "slices.partialInsertionSortCmpFunc[amortcost/api.Term]" ⟨κ,κ⟩
 case f26=>exact Exists.intro "slices.partitionEqualCmpFunc[amortcost/api.Term]" ⟨κ,κ⟩
 case f27=>exact Exists.intro "slices.partitionCmpFunc[amortcost/api.Term]" ⟨κ,κ⟩
 case f46=>exact Exists.intro "slices.siftDownCmpFunc[amortcost/api.Term]" ⟨κ,κ⟩
 case f49=>exact Exists.intro "slices.medianAdjacentCmpFunc[amortcost/api.Term]" ⟨κ,κ⟩
 case f50=>exact Exists.intro "slices.medianCmpFunc[amortcost/api.Term]" ⟨κ,κ⟩
 case f57=>exact Exists.intro "slices.order2CmpFunc[amortcost/api.Term]" ⟨κ,κ⟩
 all_goals first|kernel_rfl | (intro w;kernel_rfl)
theorem A24 (j:∀args w,(callFunc g args).run prog w = .ok (.enter g args) w) (b:∀x y n,cmp x y=some n->A6 prog g [eA x,eA y] (O .i64 n)) (c:∀x,∃cs,eA x = .agg cs) {f:List α} (h:Qj cmp f=some r) (i:f≠[]) : Bq prog 69 [.arr 0 f.length 0 f.length,.fn g []] [.rows 66 5 (f.map eA)] (.tup []) [.rows 66 5 (r.map eA)] := Aqp A23 rfl ⟨_,func69,κ,κ⟩ (by intro w;kernel_rfl) (by intro w;kernel_rfl) j b c h i
def A25:Ren:={f:=λx=>match x with|6=>274|15=>111|14=>298|28=>181|29=>182|20=>316|21=>317|22=>318|23=>319|24=>320|25=>321|26=>322|27=>323|46=>326|47=>246|48=>247|49=>327|50=>328|57=>329|n=>n,t:=λx=>match x with|22=>141|24=>145|25=>351|3=>3|39=>176|0=>0|53=>118|55=>160|4=>4|46=>251|45=>250|50=>132|5=>5|9=>9|66=>317|70=>101|76=>360|77=>361|n=>n,g:=λn=>n}
theorem A26:SlLaysF0.n6 prog A25:=by
 constructor
 case f6=>exact Exists.intro "slices.SortFunc[[]amortcost/api.Weighted,amortcost/api.Weighted]" ⟨κ,κ⟩
 case f14=>exact Exists.intro "slices.pdqsortCmpFunc[amortcost/api.Weighted]" ⟨κ,κ⟩
 case f20=>exact Exists.intro "slices.insertionSortCmpFunc[amortcost/api.Weighted]" ⟨κ,κ⟩
 case f21=>exact Exists.intro "slices.heapSortCmpFunc[amortcost/api.Weighted]" ⟨κ,κ⟩
 case f22=>exact Exists.intro "slices.breakPatternsCmpFunc[amortcost/api.Weighted]" ⟨κ,κ⟩
 case f23=>exact Exists.intro "slices.choosePivotCmpFunc[amortcost/api.Weighted]" ⟨κ,κ⟩
 case f24=>exact Exists.intro "slices.reverseRangeCmpFunc[amortcost/api.Weighted]" ⟨κ,κ⟩
 case f25=>exact Exists.intro "slices.partialInsertionSortCmpFunc[amortcost/api.Weighted]" ⟨κ,κ⟩
 case f26=>exact Exists.intro "slices.partitionEqualCmpFunc[amortcost/api.Weighted]" ⟨κ,κ⟩
 case f27=>exact Exists.intro "slices.partitionCmpFunc[amortcost/api.Weighted]" ⟨κ,κ⟩
 case f46=>exact Exists.intro "slices.siftDownCmpFunc[amortcost/api.Weighted]" ⟨κ,κ⟩
 case f49=>exact Exists.intro "slices.medianAdjacentCmpFunc[amortcost/api.Weighted]" ⟨κ,κ⟩
 case f50=>exact Exists.intro "slices.medianCmpFunc[amortcost/api.Weighted]" ⟨κ,κ⟩
 case f57=>exact Exists.intro "slices.order2CmpFunc[amortcost/api.Weighted]" ⟨κ,κ⟩
 all_goals first|kernel_rfl | (intro w;kernel_rfl)
theorem A27 (j:∀args w,(callFunc g args).run prog w = .ok (.enter g args) w) (b:∀x y n,cmp x y=some n->A6 prog g [eA x,eA y] (O .i64 n)) (c:∀x,∃cs,eA x = .agg cs) {f:List α} (h:Qj cmp f=some r) (i:f≠[]) : Bq prog 274 [.arr 0 f.length 0 f.length,.fn g []] [.rows 145 5 (f.map eA)] (.tup []) [.rows 145 5 (r.map eA)] := Aqp A26 rfl ⟨_,func274,κ,κ⟩ (by intro w;kernel_rfl) (by intro w;kernel_rfl) j b c h i
end Go.Ab
namespace Go.Ab
open Go Go.Proofs Go.Shelf Go.Proofs.Tryz
set_option maxRecDepth 100000
set_option linter.unusedVariables false
variable {n:Int} {α:Type} {r:List α} {eA:α->AV}
theorem Add {σ:A5} {ι:Cf} {H:Hp} {u v:Value} (h:Conc σ ι H (.val u) v):v=u:=by cases h with| cc h=>cases h;rfl
theorem Afg {ρ:Ren} {E:TypeId} {sz f:Nat} (L:Lays8.n4 prog ρ) (hf:ρ.f 4=f) (g:Adh prog f) (l:TypeInfo) (z:Value) (G:prog.info? (ρ.t 25)=some l) (D:l.zero=some z) (U:ρ.t 25=E) (R:l.size=sz) (B:z.cells.size=sz) (q:0<sz) (I:l.bytes<=1000) (h:Nk n=some r):Bq prog f [.val (.slice none 0 0),O .i64 n] [] (.arr 0 r.length 0 r.length) [.rows E sz (r.map eA)]:=by
 have S:r = []/\0<=n/\n<=1000000:=by
  unfold Nk at h;by_cases h1:0<=n
  .by_cases h2:n<=1000000
   .rw[decide_eq_true h1,decide_eq_true h2]at h;have h:some ([]:List α)=some r:=h;cases h;exact⟨rfl,h1,h2⟩
   .rw[decide_eq_false h2,Bool.and_false]at h;cases h
  .rw[decide_eq_false h1,Bool.false_and]at h;cases h
 obtain⟨rfl,Z,Y⟩:=S;obtain⟨m,rfl⟩:∃m:Nat,n=m:=⟨n.toNat,ω⟩;refine⟨g,λσ F W w ι vs s y=>?_⟩;obtain⟨v,u,rfl,hv,hu⟩:=Akm y;obtain rfl:=Add hv;obtain rfl:=Add hu;have M:hp [] 0 = .none:=rfl;have N:A9 (hp []) 0 (.rows E sz [])=hp [.rows E sz []]:=by
  funext i
  match i with| 0=>rfl| i+1=>rfl
 by_cases h0:m=0
 .subst h0;have call:=Any8.slices_Grow_room L none 0 0 0 w (Nat.le_refl _) δ δ δ;rw[hf]at call;refine call.mono ?_;rintro e w' ⟨rfl,rfl⟩;obtain⟨s',le⟩:=s.newNil 0 M E sz q;rw[N]at s' le;refine⟨_,σ,_,rfl,le,s',.arr 0 0 0 0 _ (by intro e;cases e) (λX A xs e=>?_) rfl⟩;cases e;refine⟨Nat.le_refl _,λ_=>?_⟩;unfold Hq;rw[Cr];exact⟨rfl,rfl,rfl⟩
 .have hb:(0+m)*l.bytes<=140737488355328:=(by have:=Nat.mul_le_mul (show 0+m<=1000000 by omega) I;omega);have call:=Any8.slices_Grow_grow L l z G D ω none 0 0 m [] w (Nat.le_refl _) ω hb ω ψ (λ_=>rfl) (λa h=>by cases h);rw[hf,U]at call;refine call.mono ?_;rintro e w' ⟨rfl,rfl⟩;have hge:=Ac7 w (0+m) 0 E;generalize grownCap w (0+m) 0 E=cap at hge;have b:∀k,(Builtin.zeroCells z.cells k).size=k*sz:=(by intro k;simp[Builtin.zeroCells,B]);generalize V:(([]:List Value).toArray++Builtin.zeroCells z.cells (0+m-0)++Builtin.zeroCells z.cells (cap-(0+m)))=C;have J:C.size=cap*sz:=(by rw[<-V,Array.size_append,Array.size_append,b,b];simp only[size_toArray,length_nil,Nat.zero_add,Nat.sub_zero,<-Nat.add_mul];congr 1;omega);obtain⟨s',le⟩:=(s.drew (w.drawn+1)).newRows 0 E sz [] cap C (.inl M) q ψ ψ J ⟨λ_ _=>.bool false,(by intro i x h;simp at h),(by intro i x j c h;simp at h),(by intro i j h;simp at h)⟩;rw[N]at s' le;refine⟨_,σ,_,rfl,le,s',.arr 0 0 0 0 _ (by intro e;cases e) (λX A xs e=>?_) rfl⟩;cases e;refine⟨Nat.le_refl _,λ_=>?_⟩;unfold Hq;rw[Cr];exact⟨Nat.zero_le _,ψ⟩
def A28:Ren:={f:=λx=>match x with|4=>150|n=>n,t:=λx=>match x with|22=>61|25=>71|3=>3|4=>4|9=>9|20=>20|0=>0|n=>n,g:=λn=>n}
theorem A29:Lays8.n4 prog A28:=by
 constructor
 case f4=>exact Exists.intro "slices.Grow[[]amortcost/api.Factor,amortcost/api.Factor]" ⟨κ,κ⟩
 all_goals first|kernel_rfl | (intro w;kernel_rfl)
theorem A3a (h:Nk n=some r):Bq prog 150 [.val (.slice none 0 0),O .i64 n] [] (.arr 0 r.length 0 r.length) [.rows 71 3 (r.map eA)] := Afg A29 rfl ⟨_,func150,κ,κ⟩ Tryz.t71 (Tryz.t71.zero.getD .nilFunc) κ κ rfl κ κ δ (of_decide_eq_true κ) h
def A3b:Ren:={f:=λx=>match x with|4=>151|n=>n,t:=λx=>match x with|22=>62|25=>77|3=>3|4=>4|9=>9|20=>20|0=>0|n=>n,g:=λn=>n}
theorem A3c:Lays8.n4 prog A3b:=by
 constructor
 case f4=>exact Exists.intro "slices.Grow[[]amortcost/api.Atom,amortcost/api.Atom]" ⟨κ,κ⟩
 all_goals first|kernel_rfl | (intro w;kernel_rfl)
theorem A3d (h:Nk n=some r):Bq prog 151 [.val (.slice none 0 0),O .i64 n] [] (.arr 0 r.length 0 r.length) [.rows 77 3 (r.map eA)] := Afg A3c rfl ⟨_,func151,κ,κ⟩ Tryz.t77 (Tryz.t77.zero.getD .nilFunc) κ κ rfl κ κ δ (of_decide_eq_true κ) h
def A3e:Ren:={f:=λx=>match x with|4=>299|n=>n,t:=λx=>match x with|22=>141|25=>145|3=>3|4=>4|9=>9|20=>20|0=>0|n=>n,g:=λn=>n}
theorem A3f:Lays8.n4 prog A3e:=by
 constructor
 case f4=>exact Exists.intro "slices.Grow[[]amortcost/api.Weighted,amortcost/api.Weighted]" ⟨κ,κ⟩
 all_goals first|kernel_rfl | (intro w;kernel_rfl)
theorem A3g (h:Nk n=some r):Bq prog 299 [.val (.slice none 0 0),O .i64 n] [] (.arr 0 r.length 0 r.length) [.rows 145 5 (r.map eA)] := Afg A3f rfl ⟨_,func299,κ,κ⟩ Tryz.t145 (Tryz.t145.zero.getD .nilFunc) κ κ rfl κ κ δ (of_decide_eq_true κ) h
def A3h:Ren:={f:=λx=>match x with|4=>315|n=>n,t:=λx=>match x with|22=>67|25=>69|3=>3|4=>4|9=>9|20=>20|0=>0|n=>n,g:=λn=>n}
theorem A3i:Lays8.n4 prog A3h:=by
 constructor
 case f4=>exact Exists.intro "slices.Grow[[]amortcost/api.Index,amortcost/api.Index]" ⟨κ,κ⟩
 all_goals first|kernel_rfl | (intro w;kernel_rfl)
theorem A3j (h:Nk n=some r):Bq prog 315 [.val (.slice none 0 0),O .i64 n] [] (.arr 0 r.length 0 r.length) [.rows 69 2 (r.map eA)] := Afg A3i rfl ⟨_,func315,κ,κ⟩ Tryz.t69 (Tryz.t69.zero.getD .nilFunc) κ κ rfl κ κ δ (of_decide_eq_true κ) h
end Go.Ab
