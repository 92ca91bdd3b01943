/- Contracts of strings.Builder and strconv.Itoa. -/
import Derived.Test.YtphbdfhbonlpfaaGreatDoorRgTy
import Derived.Test.YtphbdfhbonlpfaaGreatDoorRgHandB
import Derived.Shelf.Strconv.Itoa4
import Derived.KernelRfl
import Derived.Shelf.Sort.Plain
import Derived.Shelf.SlSortCmp.WholeK
import Derived.Shelf.Spec.SlicesGrow
open List
namespace Go.Ab
open Go Go.Proofs Go.Shelf Go.Proofs.Tryz
set_option maxRecDepth 100000
variable {F σ:A5} {p x:AV} {vs:Array Value} {r:ByteArray} {ι:Cd} {H:Hp} {a0:Int} {l:List Int} {W w:World}
def Apw:Ren:={f:=λx=>match x with|171=>116|243=>173|246=>243|283=>278|284=>279|285=>280|286=>281|129=>188|317=>310|318=>311|319=>312|320=>313|337=>324|338=>325|173=>175|n=>n,t:=λx=>match x with|3=>3|9=>9|2=>2|4=>4|171=>343|0=>0|53=>55|37=>171|5=>5|173=>345|212=>366|51=>56|20=>20|213=>367|46=>185|232=>378|233=>379|n=>n,g:=λx=>match x with|17=>0|18=>1|19=>2|n=>n}
theorem Apx:LaysM.n171 prog Apw:=by constructor;constructor;all_goals first|kernel_rfl | (intro w;kernel_rfl)
theorem St.grown (s:St σ ι0 H0 F W w) (k:Nat) (os:Array Obj):St σ ι0 H0 F W (Sort.grow (w.drewN k) os):=by
 have hk:∀(b:Nat) (o:Obj),w.heap[b]? = some o->(Sort.grow (w.drewN k) os).heap[b]? = some o:=by intro b o h;have c:=(Array.getElem?_eq_some_iff.1 h).1;show (w.heap++os)[b]? = _;rw[Array.getElem?_append_left c];exact h
 exact⟨λb o h=>hk b o (s.sto b o h),λb o h=>⟨hk b o (s.fra b o h).1,(s.fra b o h).2⟩,λ_=>rfl,(λ_ _ _ f=>by cases f),s.os,s.tape,s.output,s.glo,Nat.le_trans s.drw (Nat.le_add_right _ _)⟩
theorem Apy (s:St σ ι H F W w):Lib.TabIs prog w "internal/strconv.uint64pow10" .u64 Lib.pow10Tab:=by obtain⟨E,fr,e⟩:=s.glo;have h:=s.sto _ _ e;have g:prog.globalNamed "internal/strconv.uint64pow10" = some 0:=Apx.m17;unfold Lib.TabIs World.var?;rw[g];simp only[Option.bind_some,h]
theorem Xg (h:Nw σ ι H [x] vs):∃v,vs = #[v]/\Conc σ ι H x v:=by
 obtain⟨h1,h2⟩:=h;have h1:vs.size=1:=h1;refine⟨vs[0],?_,h2 0 x _ rfl (by simp[h1])⟩;apply Array.ext
 .simp[h1]
 .intro i hi b;have:i=0:=ω;subst this;rfl
theorem A02 (h:Py a0=some r):Ay prog 116 [O .i64 a0] (Es r):=by
 unfold Py at h;split at h
 .rename_i hc;cases h;refine⟨⟨_,func116,κ,κ⟩,λσ F W w vs s b=>?_⟩;obtain⟨v,rfl,c⟩:=Xg b;have c:=c.val_inv;subst c;have:=Any.strconv_Itoa Apx a0 hc.1 hc.2 w (Apy s);refine this.mono ?_;rintro e w' ⟨rfl,k,os,rfl⟩;exact⟨_,σ,rfl,A5.le_refl σ,s.grown k os,.of_val _⟩
 .cases h
theorem A03:LaysM.n173 prog Apw:=by constructor;constructor;all_goals first|kernel_rfl | (intro w;kernel_rfl)
theorem Aj5 {y:AV} (h:Nw σ ι H [x,y] vs):∃v u,vs = #[v,u]/\Conc σ ι H x v/\Conc σ ι H y u:=by
 obtain⟨h1,h2⟩:=h;have h1:vs.size=2:=h1;refine⟨vs[0],vs[1],?_,h2 0 x _ rfl (by simp[h1]),h2 1 y _ rfl (by simp[h1])⟩;apply Array.ext
 .simp[h1]
 .intro i hi b;rcases (ω:i=0\/i=1) with h|h
  .subst h;rfl
  .subst h;rfl
theorem A04 {a1:Int} (h:Adn a0 a1=some r):Ay prog 175 [O .i64 a0,O .i64 a1] (Es r):=by
 unfold Adn at h;cases hb:a1==10 with
 | false=>rw[hb]at h;cases h
 | true=>
  rw[hb]at h;have hb:=eq_of_beq hb;subst hb;have h:Py a0=some r:=h;unfold Py at h;split at h
  .rename_i hc;cases h;refine⟨⟨_,func175,κ,κ⟩,λσ F W w vs s b=>?_⟩;obtain⟨v,u,rfl,c,hu⟩:=Aj5 b;have c:=c.val_inv;have hu:=hu.val_inv;subst c;subst hu;have:=Any.strconv_FormatInt_10 A03 a0 hc.1 hc.2 w (Apy s);refine this.mono ?_;rintro e w' ⟨rfl,k,os,rfl⟩;exact⟨_,σ,rfl,A5.le_refl σ,s.grown k os,.of_val _⟩
  .cases h
theorem Aau (o:Bn) (os:List Bn):hp (o::os) 0=o:=rfl
theorem A05 (x:AV) (rest:List Bn):Bv prog 171 [.loc 0 0] (.cells 173 [.loc 0 0,x]::rest) (.tup []) (.cells 173 [.loc 0 0,x]::rest):=by
 refine⟨⟨_,func171,κ,κ⟩,λσ F W w ι vs s f=>?_⟩;obtain⟨v,rfl,k⟩:=Xg f;obtain⟨b,hb,k⟩:=k.loc_inv;subst k;have l:=s.obj 0;unfold C2 at l;rw[Aau]at l;obtain⟨A,C,y,_,_,h3,u,z⟩:=l;rw[hb]at y;cases y;have u:C.size=2:=u;have g:C[0]? = some C[0]:=by simp[u]
 have q:=z 0 (.loc 0 0) C[0] rfl g;obtain⟨b2,h,j⟩:=q.loc_inv;rw[hb]at h;cases h;have cell:w.cell? ⟨b,0,none⟩=some (.pointer (some ⟨b,0,none⟩)):=by rw[Kp h3,g,j]
 refine (Tryz.check_used b w cell).mono ?_;rintro e w' ⟨rfl,rfl⟩;exact⟨_,σ,ι,rfl,Le.refl _ _ _,s,.tup _ _ rfl (λi c v h1 _=>by cases h1)⟩
theorem A06 (x:AV) (rest:List Bn):Bv prog 171 [.loc 0 0] (.cells 173 [.val (.pointer none),x]::rest) (.tup []) (.cells 173 [.loc 0 0,x]::rest):=by
 refine⟨⟨_,func171,κ,κ⟩,λσ F W w ι vs s j=>?_⟩;obtain⟨v,rfl,q⟩:=Xg j;obtain⟨b,hb,q⟩:=q.loc_inv;subst q;have u:=s.obj 0;unfold C2 at u;rw[Aau]at u;obtain⟨D,C,A,_,_,h3,g,z⟩:=u;rw[hb]at A;cases A;have g:C.size=2:=g;have k:C[0]? = some C[0]:=by simp[g]
 have l:=(z 0 (.val (.pointer none)) C[0] rfl k).val_inv;have cell:w.cell? ⟨b,0,none⟩=some (.pointer none):=by rw[Kp h3,k,l]
 refine (Tryz.check_fresh b w cell (by simp[World.shape?,h3,g]) (by simp[World.frozen?,h3])).mono ?_;rintro e w' ⟨rfl,rfl⟩;obtain⟨s',le⟩:=s.setBox 0 173 [.val (.pointer none),x] [.loc 0 0,x] rfl b hb #[.pointer (some ⟨b,0,none⟩),C[1]] rfl (by
  intro i c v h1 h2
  match i with| 0=>simp at h1 h2;subst h1;subst h2;exact .loc 0 0 b hb| 1=>simp at h1 h2;subst h1;subst h2;exact z 1 x _ rfl (by simp[g])| i+2=>simp at h1)
 have B:Ba (hp (.cells 173 [.val (.pointer none),x]::rest)) 0 (.cells 173 [.loc 0 0,x])=hp (.cells 173 [.loc 0 0,x]::rest):=by funext i;cases i with| zero=>rfl| succ i=>rfl
 have eW:w.setCell ⟨b,0,none⟩ (.pointer (some ⟨b,0,none⟩))=w.setRow b #[.pointer (some ⟨b,0,none⟩),C[1]]:=by
  have h:C.setIfInBounds 0 (.pointer (some ⟨b,0,none⟩)) = #[.pointer (some ⟨b,0,none⟩),C[1]]:=by
   apply Array.ext
   .simp[g]
   .intro i hi y
    match i with| 0=>simp| 1=>rw[Array.getElem_setIfInBounds_ne _ δ];rfl| i+2=>simp at y;omega
  have f:(w.setCell ⟨b,0,none⟩ (.pointer (some ⟨b,0,none⟩))).heap=(w.setRow b #[.pointer (some ⟨b,0,none⟩),C[1]]).heap:=by
   apply Array.ext_getElem?;intro i;simp only[World.setCell,World.setRow,Array.getElem?_modify];split
   .rename_i e;subst e;rw[h3];simp[h]
   .rfl
  unfold World.setCell World.setRow at f ⊢;simp only at f;rw[f]
 rw[B]at s' le;rw[eW];exact⟨_,σ,ι,rfl,le,s',.tup _ _ rfl (λi c v h1 _=>by cases h1)⟩
theorem A07 (h:∀x∈l,0<=x/\x<256) {j:Nat} {x:UInt8} (hx:(Fk l)[j]? = some x):l[j]? = some (x.toNat:Int):=by simp only[Fk,getElem?_map,Option.map_eq_some_iff]at hx;obtain⟨y,hy,rfl⟩:=hx;have b:=h y (mem_of_getElem? hy);rw[hy];congr 1;have:y.toNat<256:=ω;simp only[UInt8.toNat_ofNat'];omega
theorem St.kill (s:St σ ι H F W w) (h:Nat):St σ ι (Ba H h .dead) F W w/\Le σ ι H σ ι (Ba H h .dead):=by
 have le:Le σ ι H σ ι (Ba H h .dead):=by have:=Le.upd (ι:=ι) (H:=H) (A5.le_refl σ) h (ι h) .dead ⟨λ_ e=>e,(λ_ e=>by cases e),(λ_ k j i e=>by cases e)⟩;rwa [Je]at this
 obtain⟨f1,f2⟩:=s.fresh;refine⟨s.touch h w.heap.size (λ_ _=>rfl) (λx e=>Dh _ _ e) le (λ_ _=>rfl) (λ_ _=>rfl) (λo g=>by rw[f1]at g;cases g) ?_ f2 ?_ ?_ rfl rfl rfl,le⟩
 .intro x _ c f;have:=(s.block c f).1;omega
 .intro b c;rw[Co]at c;cases c
 .unfold C2;rw[Co];trivial
theorem St.fbox (s0:St σ ι H F W w) {T:TypeId} {s:ByteArray} {b:Nat} {C:Array Value} (f:H 0 = .cells T [p,x]) (hb:ι 0 = .box b) (h3:w.heap[b]? = some (.cells C T (0,0))) (hc:∀v,C[1]? = some v->CC σ (.fb s) v):St σ ι (Ba H 0 (.cells T [p,.fb s])) F W w/\Le σ ι H σ ι (Ba H 0 (.cells T [p,.fb s])):=by
 have g:=s0.obj 0;unfold C2 at g;rw[f]at g;obtain⟨u,z,k,g1,g2,g3,g4,g5⟩:=g;rw[hb]at k;cases k;rw[h3]at g3;cases g3;have le:Le σ ι H σ ι (Ba H 0 (.cells T [p,.fb s])):=by have:=Le.upd (ι:=ι) (H:=H) (A5.le_refl σ) 0 (ι 0) (.cells T [p,.fb s]) (by rw[f];exact⟨λ_ e=>e,(λ_ e=>by cases e),(λ_ _ _ _ e=>by cases e)⟩);rwa [Je]at this
 refine⟨s0.touch 0 b (λ_ _=>rfl) (λx e=>Dh _ _ e) le (λx e=>rfl) (λ_ _=>rfl) (λo e=>by rw[g1]at e;cases e) ?_ g2 ?_ ?_ rfl rfl rfl,le⟩
 .intro x e l h;exact e (s0.inj x 0 b l (by rw[f];rfl) h (by rw[hb];rfl))
 .intro q _ j;exact .inr ⟨by rw[f];rfl,j⟩
 .unfold C2;rw[Co];refine⟨b,C,hb,g1,g2,h3,by simpa using g4,λi c v x y=>?_⟩
  match i with| 0=>exact (g5 0 c v x y).mono le| 1=>cases x;exact .cc (hc v y)| i+2=>cases x
theorem A08:Bv prog 118 [.loc 0 0] [.cells 173 [p,.arr 1 0 0 0],.rows 5 1 []] (Es .empty) [.cells 173 [p,.fb .empty],.dead]:=by
 refine⟨⟨_,func118,κ,κ⟩,λσ F W w ι vs s z=>?_⟩;obtain⟨v,rfl,j⟩:=Xg z;obtain⟨b,hb,j⟩:=j.loc_inv;subst j;have M:=s.obj 0;unfold C2 at M;rw[Aau]at M;obtain⟨b',C,Y,_,_,h3,B,h5⟩:=M;rw[hb]at Y;cases Y;have B:C.size=2:=B;have hC:C = #[C[0],C[1]]:=by
  apply Array.ext
  .simp[B]
  .intro i hi N
   match i with| 0=>rfl| 1=>rfl| i+2=>simp at N;omega
 have R:=h5 1 (.arr 1 0 0 0) C[1] rfl (by simp[B]);have y:hp [Bn.cells 173 [p,.arr 1 0 0 0],.rows 5 1 []] 1 = .rows 5 1 []:=rfl;have c:=R.arr_inv y ψ;have hor:=s.obj 1;unfold C2 at hor;rw[y]at hor;obtain⟨_,V,hor⟩:=hor;have eH:Ba (Ba (hp [Bn.cells 173 [p,.arr 1 0 0 0],.rows 5 1 []]) 1 .dead) 0 (.cells 173 [p,.fb .empty])=hp [Bn.cells 173 [p,.fb .empty],.dead]:=by
  funext i
  match i with| 0=>rfl| 1=>rfl| i+2=>rfl
 have go:∀(a q:Option Addr) (cap:Nat) (A:A5) (k:World),C[1] = .slice a 0 cap->k.heap[b]? = w.heap[b]?->(Builtin.unsafeSliceData_ #[171] 246 #[.slice a 0 cap]).run prog w.drew = .ok (.pointer q) k ->
   Le σ ι (hp [Bn.cells 173 [p,.arr 1 0 0 0],.rows 5 1 []]) A ι (hp [Bn.cells 173 [p,.arr 1 0 0 0],.rows 5 1 []])->St A ι (hp [Bn.cells 173 [p,.arr 1 0 0 0],.rows 5 1 []]) F W k -> Calls prog 118 #[.pointer (some ⟨b,0,none⟩)] w λe w'=>∃v E G,e = .returned v/\Le σ ι (hp [Bn.cells 173 [p,.arr 1 0 0 0],.rows 5 1 []]) E G (hp [Bn.cells 173 [p,.fb .empty],.dead])/\St E G (hp [Bn.cells 173 [p,.fb .empty],.dead]) F W w'/\Conc E G (hp [Bn.cells 173 [p,.fb .empty],.dead]) (Es .empty) v:=by intro a q cap A k f x S le I;have h:w.heap[b]? = some (.cells #[C[0],.slice a 0 cap] 173 (0,0)):=(by rw[h3];congr 1;rw[<-f,<-hC]);refine (Tryz.builder_str0 b cap C[0] a q w k h (x.trans h) S).mono ?_;rintro e w' ⟨rfl,rfl⟩;obtain⟨Z,J⟩:=I.kill 1;obtain⟨U,u⟩:=Z.fbox (b:=b) (C:=#[C[0],.slice a 0 cap]) (s:=.empty) (by rfl) hb ((x.trans h)) (λv j=>by simp at j;subst j;exact .fbn _ _ _ rfl);rw[eH]at U u;exact⟨_,A,ι,rfl,(le.trans J).trans u,U,.of_val _⟩
 rcases hor with⟨hi,_⟩|⟨g,l,D,hg,g1,g2,g3,g4,g5,g6⟩
 .unfold Hs at c;rw[hi]at c;exact go none none 0 σ w.drew c.1 rfl rfl (Le.refl _ _ _) (s.drew _)
 .unfold Hs at c;rw[hg]at c;simp only[Nat.zero_mul,Nat.zero_add,Nat.sub_zero]at c;obtain⟨_,f⟩:=c;by_cases ht:l=0
  .subst ht;obtain⟨I,L⟩:=(s.drew (w.drawn+1)).newFrozen (.view ⟨g,0,none⟩ 5);have X:=(Array.getElem?_eq_some_iff.1 h3).1;refine go _ _ 0 _ (w.drew.alloc (.view ⟨g,0,none⟩ 5)) f ?_ (Lib.run_unsafeSliceData_zero _ _ _ 5 Go.Proofs.Tryz.underlying246 _ _ (5,D.size) (by have:w.drew.heap[g]? = some (.cells D 5 (0,0)):=g3;simp[World.shape?,this])) L I;show (w.heap.push _)[b]? = _;rw[Array.getElem?_push,if_neg ω]
  .exact go _ _ l σ w.drew f rfl (Lib.run_unsafeSliceData_row _ _ _ _ _ _ ht) (Le.refl _ _ _) (s.drew _)
theorem Apz (h:Yv l=some r):Bv prog 118 [.loc 0 0] [.cells 173 [p,.arr 1 l.length 0 l.length],.rows 5 1 (map (O .u8) l)] (Es r) [.cells 173 [p,.fb r],.dead]:=by
 unfold Yv at h;split at h
 .rename_i aa;cases h;by_cases u:l = []
  .subst u;exact A08
  refine⟨⟨_,func118,κ,κ⟩,λσ F W w ι vs s S=>?_⟩;obtain⟨v,rfl,A⟩:=Xg S;obtain⟨b,hb,A⟩:=A.loc_inv;subst A;have B:=s.obj 0;unfold C2 at B;rw[Aau]at B;obtain⟨b',C,e1,_,_,h3,Y,h5⟩:=B;rw[hb]at e1;cases e1;have Y:C.size=2:=Y;have hC:C = #[C[0],C[1]]:=by
   apply Array.ext
   .simp[Y]
   .intro i hi a7
    match i with| 0=>rfl| 1=>rfl| i+2=>simp at a7;omega
  have a8:=h5 1 (.arr 1 l.length 0 l.length) C[1] rfl (by simp[Y]);have N:hp [Bn.cells 173 [p,.arr 1 l.length 0 l.length],.rows 5 1 (map (O .u8) l)] 1 = .rows 5 1 (map (O .u8) l):=rfl;have y:=a8.arr_inv N ψ;have hor:=s.obj 1;unfold C2 at hor;rw[N]at hor;obtain⟨_,M,hor⟩:=hor;rw[length_map]at M;rcases hor with⟨_,J⟩|⟨g,q,D,hg,g1,g2,g3,g4,g5,g6⟩
  .exact (u (by simpa using J)).elim
  .rw[length_map]at g5;unfold Hs at y;rw[hg]at y;simp only[Nat.zero_mul,Nat.zero_add,Nat.sub_zero]at y;obtain⟨ht,I⟩:=y;have c:(Fk l).length=l.length:=(by simp[Fk]);have f:∀(j:Nat) (x:UInt8),(Fk l)[j]? = some x->D[j]? = some (Value.int .u8 x.toNat):=(by intro j x hx;have hj:=A07 aa hx;obtain⟨gg,q1,q2,q3⟩:=g6;have G:(map (O .u8) l)[j]? = some (O .u8 x.toNat):=(by rw[getElem?_map,hj];rfl);have a1:j<(map (O .u8) l).length:=(List.getElem?_eq_some_iff.1 G).1;have q4:=q3 j 0 a1 ω;have q5:=(q2 j _ 0 _ G rfl).1;have:gg j 0=Value.int .u8 x.toNat:=(by generalize gg j 0=z at q5;cases q5;rfl);rw[this]at q4;simpa using q4);have U:w.heap[b]? = some (.cells #[C[0],.slice (some ⟨g,0,none⟩) (Fk l).length q] 173 (0,0)):=(by rw[h3];congr 1;rw[c];have:C[1] = .slice (some ⟨g,0,none⟩) l.length q:=I;rw[<-this,<-hC]);have V:l.length<=D.size:=(by rw[g4];omega);have call:=Tryz.builder_str b g q C[0] D (Fk l) w (by intro e;apply u;rw[<-length_eq_zero_iff,<-c,e];rfl) U g3 (by rw[c];exact g5) (by rw[c];exact V) (by rw[c];omega) f;refine call.mono ?_;rintro e w' ⟨rfl,rfl⟩;have L:(Fk l).length≠0:=(by rw[c];simpa using u);have a6:σ.le (Ba σ g (some (.cells D 5 (0,(Fk l).length)))):=(by intro b' o' hb';rw[Dh _ _ (by intro e;subst e;rw[g1]at hb';cases hb')];exact hb');have Z:(w.drew.freeze ⟨g,0,none⟩ (Fk l).length).heap[g]? = some (.cells D 5 (0,(Fk l).length)):=(by unfold World.freeze;rw[if_neg L];simp only[Array.getElem?_modify,if_true];have:w.drew.heap[g]? = some (.cells D 5 (0,0)):=g3;rw[this];simp);have R:∀b,b≠g->(w.drew.freeze ⟨g,0,none⟩ (Fk l).length).heap[b]? = w.heap[b]?:=by
    intro b hb;unfold World.freeze;split
    .rfl
    .simp only[Array.getElem?_modify];rw[if_neg (Ne.symm hb)];rfl
   have le:Le σ ι (hp [Bn.cells 173 [p,.arr 1 l.length 0 l.length],.rows 5 1 (map (O .u8) l)]) (Ba σ g (some (.cells D 5 (0,(Fk l).length)))) ι (Ba (hp [Bn.cells 173 [p,.arr 1 l.length 0 l.length],.rows 5 1 (map (O .u8) l)]) 1 .dead):=(by have:=Le.upd (ι:=ι) (H:=hp [Bn.cells 173 [p,.arr 1 l.length 0 l.length],.rows 5 1 (map (O .u8) l)]) a6 1 (ι 1) .dead ⟨λ_ e=>e,(λ_ e=>by cases e),(λ_ E1 ae ad e=>by cases e)⟩;rwa [Je]at this);have eH:Ba (Ba (hp [Bn.cells 173 [p,.arr 1 l.length 0 l.length],.rows 5 1 (map (O .u8) l)]) 1 .dead) 0 (.cells 173 [p,.fb ⟨(Fk l).toArray⟩])=hp [Bn.cells 173 [p,.fb ⟨(Fk l).toArray⟩],.dead]:=by
    funext i
    match i with| 0=>rfl| 1=>rfl| i+2=>rfl
   have ac:b≠g:=(by intro e;have:=s.inj 0 1 g rfl rfl (by rw[hb,e];rfl) (by rw[hg];rfl);cases this);have s2:St (Ba σ g (some (.cells D 5 (0,(Fk l).length)))) ι (Ba (hp [Bn.cells 173 [p,.arr 1 l.length 0 l.length],.rows 5 1 (map (O .u8) l)]) 1 .dead) F W (w.drew.freeze ⟨g,0,none⟩ (Fk l).length):=by
    refine s.touch (hdrw:=by unfold World.freeze;split <;> exact Nat.le_succ _) 1 g (λ_ _=>rfl) (λx e=>Dh _ _ e) le R (λx e=>Dh _ _ e) (λo B=>by rw[Co]at B;cases B;exact Z) ?_ g2 ?_ ?_ ?_ ?_ ?_
    .intro x hx X ab;exact hx (s.inj x 1 g X rfl ab (by rw[hg];rfl))
    .intro b0 X;rw[Co]at X;cases X
    .unfold C2;rw[Co];trivial
    .unfold World.freeze;split <;> rfl
    .unfold World.freeze;split <;> rfl
    .unfold World.freeze;split <;> rfl
   obtain⟨s3,E⟩:=s2.fbox (b:=b) (C:=#[C[0],.slice (some ⟨g,0,none⟩) (Fk l).length q]) (s:=⟨(Fk l).toArray⟩) (by rfl) hb ((R b ac).trans U) (λv A=>by simp only[getElem?_toArray,getElem?_cons_succ,getElem?_cons_zero,Option.some.injEq]at A;subst A;have k:(ByteArray.mk (Fk l).toArray).size=(Fk l).length:=(by simp[ByteArray.size]);rw[<-k];refine .fb _ g q D (by rw[Co,k]) (by rw[k];exact L) (by rw[k,c];omega) (by rw[k,c];exact V) (by rw[k,c];omega) (λj x hx=>f j x (by simpa using hx)));rw[eH]at s3 E;exact⟨_,_,ι,rfl,le.trans E,s3,.of_val _⟩
 .cases h
theorem Ap0 {f:ByteArray} (h:(bif Nat.beq f.size 0 then none else some f)=some r):Bv prog 118 [.loc 0 0] [.cells 173 [p,.fb f]] (Es r) [.cells 173 [p,.fb f]]:=by
 have q:r.size≠0/\f=r:=by cases hb:Nat.beq f.size 0 with| true=>rw[hb]at h;cases h| false=>rw[hb]at h;cases h;exact⟨(λe=>by rw[e]at hb;exact Bool.noConfusion hb),rfl⟩
 clear h;obtain⟨q,E⟩:=q;subst E;refine⟨⟨_,func118,κ,κ⟩,λσ F W w ι vs s y=>?_⟩;obtain⟨v,rfl,B⟩:=Xg y;obtain⟨b,hb,B⟩:=B.loc_inv;subst B;have G:=s.obj 0;unfold C2 at G;rw[Aau]at G;obtain⟨Y,C,N,_,_,h3,A,U⟩:=G;rw[hb]at N;cases N;have A:C.size=2:=A;have M:C = #[C[0],C[1]]:=by
  apply Array.ext
  .simp[A]
  .intro i hi I
   match i with| 0=>rfl| 1=>rfl| i+2=>simp at I;omega
 have l:=U 1 (.fb f) C[1] rfl (by simp[A]);generalize C[1]=u at M l;generalize C[0]=R at M;subst M;cases l with
 | cc l=>
  cases l with
  | fbn _ a cap h0=>exact (q h0).elim
  | fb _ g cap D S h0 z L X J=>
   have hg:=s.sto _ _ S;have k:f.data.toList.length=f.size:=(by rw[Array.length_toList];rfl);have call:=Tryz.builder_str b g cap R D f.data.toList w (by intro e;rw[e]at k;exact h0 k.symm) (by rw[k];exact h3) hg (by rw[k];exact z) (by rw[k];exact L) (by rw[k];omega) (λj x hx=>J j x (by simpa using hx));refine call.mono ?_;rintro e w' ⟨rfl,rfl⟩;have hw:w.drew.freeze ⟨g,0,none⟩ f.data.toList.length=w.drew:=by
    unfold World.freeze;split
    .rfl
    .have:w.drew.heap.modify g (λo=>match o with|.cells c elem (lo,hi)=>.cells c elem (if lo==hi then (0,0+f.data.toList.length) else (min lo 0,max hi (0+f.data.toList.length))) | o=>o)=w.drew.heap:=by
      apply Array.ext_getElem?;intro i;rw[Array.getElem?_modify];split
      .rename_i e;subst e;have:w.drew.heap[g]? = some (.cells D 5 (0,f.size)):=hg;rw[this];simp[k,Ne.symm h0]
      .rfl
     exact congrArg (λh=>{w.drew with heap:=h}) this
   rw[hw];have V:(⟨f.data.toList.toArray⟩:ByteArray)=f:=ψ;rw[V];exact⟨_,σ,ι,rfl,Le.refl _ _ _,s.drew _,.of_val _⟩
end Go.Ab
namespace Go.Ab
open Go Go.Proofs Go.Proofs.Tryz
set_option linter.unusedVariables false
class OK {α:Type} (o:Option α) (G:outParam (α->Prop)):Prop where
 ok:∀{r:α},o=some r->G r
theorem okz {α:Type} {G:α->Prop}:OK (none:Option α) G:=⟨λh=>by cases h⟩
section
variable {P:Program} {C:Cfg} {Qn:Nat->B5->Hp->Prop} {Qe:Nat->Nat->B5->Hp->Prop} {Qr:Nat->B5->Hp->Prop} {n:Nat} {e:B5} {H:Hp} {β:Type} {r:β}
variable {T:C9} {an:Nat->Ann} {nl:Nat->List (Nat×Nat)} {ops:Array Oper} {o:Oper} {os:List Oper} {acc:Jm} {K:Nat->B5->Hp->Jm->Prop}
variable {fn:Func} {hi i lo:Int} {xs ys zs:List AV} {hs:List Bn} {b kk n0:Nat} {E S α:Type} {J:E->Option β} {l:List α} {g:List α->List AV} {m:List α->Option β} {s0:S} {iv:S->List (Nat×AV)} {hv:S->List (Nat×Bn)} {x:α} {ra:α->AV} {G:α->Prop}
theorem Hh {p:Nat×Bool} {s:Nat} {b:Bool} {m m':Option β} (h:(bif b then m else m')=some r) (h1:b=true->m=some r->Ga (Fy P T an nl ops (o::os) n (Ba e s (.val (.bool true))) H acc K)) (h2:b=false->m'=some r->Ga (Fy P T an nl ops (o::os) n (Ba e s (.val (.bool false))) H acc K)) (hg:o.guard=some p:=by exact rfl) (hs:(ops[p.1]?).bind (·.dst)=some s:=by exact rfl) (hb:e s = .val (.bool b):=by exact rfl):Ga (Fy P T an nl ops (o::os) n e H acc K):=A0h h h1 h2 hb
theorem nw {c:Code} (k:wc P C c Qn Qe Qr n e H):Ga (wc P C c Qn Qe Qr n e H):=.mk k
theorem Cv {o:S⊕E} {x:E} (h:some (Sum.inr x)=some o) (hx:∀x,Sum.inr x=o->J x=some r:=by assumption):J x=some r:=hx x (Option.some.inj h)
theorem lpj {o:S} {J:S->Option β} {x:S} (h:some x=some o) (hx:∀y,y=o->J y=some r:=by assumption):J x=some r:=hx x (Option.some.inj h)
theorem lpn {o:S⊕E} {s':S} {K:Nat->B5->Hp->Prop} {inv:S->Prop} {H0:Hp} (h:some (Sum.inl s')=some o) (hn:∀s' n' e' H',Sum.inl s'=o->H5 e' (iv s')->H6 H' (Cq H0 (hv s')) n0 n0->inv s'->K n' e' H':=by assumption) (hs:H5 e (iv s'):=by (repeat refine⟨rfl,?_⟩);exact trivial) (hh:H6 H (Cq H0 (hv s')) n0 n0:=by (repeat refine⟨⟨rfl,rfl⟩,?_⟩);exact trivial) (hi:inv s':=by first|trivial|exact rfl | ((repeat refine Jf ?_ _ _);first|exact rfl|assumption)):K n e H:=hn s' n e H (Option.some.inj h) hs hh hi
theorem jnn {o x:E} {s:S} {J:S->Prop} {K:Nat->B5->Hp->Prop} {H0:Hp} (h:some x=some o) (hn:∀s n' e' H',J s->H5 e' (iv s)->H6 H' (Cq H0 (hv s)) n0 n0->K n' e' H':=by assumption) (hJ:J s:=by exact Option.some.inj h) (hs:H5 e (iv s):=by (repeat refine⟨rfl,?_⟩);exact trivial) (hh:H6 H (Cq H0 (hv s)) n0 n0:=by (repeat refine⟨⟨rfl,rfl⟩,?_⟩);exact trivial):K n e H:=hn s n e H hJ hs hh
theorem Ur {o:Option α} {m:α->Option β} {f:FuncId} {args:List AV} {K:Eff->Nat->Prop} (h:o.bind m=some r) [i:OK o G] (k:∀v,m v=some r->K ⟨ra v,[],[]⟩ n) (hG:∀v,G v->Ay P f args (ra v):=by exact λ_ h=>h) (hf:args.all AV.free=true:=by exact rfl):Gc P n H f args K := Dt h λv hv h=>Gc.mk _ (hG v (i.ok hv)) hf (k v h)
theorem Ap1 {o:Option α} {m:α->Option β} {f:FuncId} {args args':List AV} {K:Eff->Nat->Prop} (h:o.bind m=some r) [i:OK o G] (k:∀v,m v=some r->K ⟨ra v,[],[]⟩ n) (hG:∀v,G v->Ay P f args' (ra v):=by exact λ_ h=>h) (hs:Rg args args':=by (repeat first|refine⟨Sub.refl _,?_⟩|refine⟨Sub.nil _,?_⟩);exact trivial) (hf:args.all AV.free=true:=by exact rfl):Gc P n H f args K := Dt h λv hv h=>Gc.mk _ (Ay.sub (hG v (i.ok hv)) hs (Sub.refl _)) hf (k v h)
theorem Aav {o:Option α} {m:α->Option β} {f:FuncId} {args largs:List AV} {hs':α->List Bn} {K:Eff->Nat->Prop} (l:List Nat) (h:o.bind m=some r) [i:OK o G] (k:∀v,m v=some r->K ⟨ren (Ds n l) (ra v),Fx (Ds n l) 0 hs++Cm (Ds n l) l.length ((hs' v).length-l.length),Fx (Ds n l) 0 (hs' v)⟩ (n+((hs' v).length-l.length))) (hG:∀v,G v->Bv P f largs hs (ra v) (hs' v):=by exact λ_ h=>h) (ha:largs.map (ren (Ds n l))=args:=by exact rfl) (ok:∀v,Nx n l largs hs (ra v) (hs' v)=true:=by exact λ_=>rfl) (hh:Oy H (Fx (Ds n l) 0 hs):=by (repeat refine⟨rfl,?_⟩);exact trivial):Gc P n H f args K := Dt h λv hv h=>Gc.act l largs hs (ra v) (hs' v) (hG v (i.ok hv)) ha (ok v) hh (k v h)
theorem Of {f:α->AV} {m:α->Option β} {K:Nat->AV->Prop} (h:(Ag l i).bind m=some r) (k:∀(n:Nat) (x:α),i=n->l[n]? = some x->m x=some r->K n (f x)) (he:ys=l.map f:=by first|exact rfl|exact Li _|exact Lj _):Vt ys i K:=Aja he h k
theorem L5 {f:α->AV} {m:α->Option β} {K:Nat->Prop} {len:Nat} (h:(Ag l i).bind m=some r) (k:∀(n:Nat) (x:α),i=n->l[n]? = some x->m x=some r->K n) (he:ys=l.map f:=by first|exact rfl|exact Li _|exact Lj _) (hl:len=l.length:=by first|exact rfl|assumption|exact I2 (by assumption) | ((repeat refine Jf ?_ _ _);first|exact rfl|assumption)) (hk:kk=l.length:=by first|exact rfl|assumption|exact I2 (by assumption) | ((repeat refine Jf ?_ _ _);first|exact rfl|assumption)):S8 len kk ys i K:=A0j he hl hk h k
theorem Xh {f:α->AV} {m:α->Option β} {K:Nat->Prop} {off len:Nat} (h:(Lc l off len i).bind m=some r) (k:∀(n:Nat) (x:α),i=n->l[off+n]? = some x->m x=some r->K n) (he:ys=l.map f:=by first|exact rfl|exact Li _|exact Lj _) (hk:kk=l.length:=by first|exact rfl|assumption|exact I2 (by assumption) | ((repeat refine Jf ?_ _ _);first|exact rfl|assumption)):S8 len kk ys i K:=A0k he hk h k
theorem R8 {f:α->AV} {K:Int->Prop} (k:K (l.length:Int)) (he:ys=l.map f:=by first|exact rfl|exact Li _|exact Lj _):N0 ys K:=Ao6 he k
theorem R9 {f:α->AV} {K:Prop} (k:K) (he:ys=l.map f:=by first|exact rfl|exact Li _|exact Lj _) (hk:kk=l.length:=by first|exact rfl|assumption|exact I2 (by assumption) | ((repeat refine Jf ?_ _ _);first|exact rfl|assumption)):H9 kk ys K:=A0t he hk k
theorem Sa {K:Prop} (k:K):H9 0 [] K:=.mk rfl k
theorem Sb {f:α->AV} {n i:Nat} {K:AV->Prop} (k:K (f x)) (he:ys=l.map f:=by first|exact rfl|exact Li _|exact Lj _) (hk:kk=l.length:=by first|exact rfl|assumption|exact I2 (by assumption) | ((repeat refine Jf ?_ _ _);first|exact rfl|assumption)) (hi:i=n/\l[n]? = some x:=by first|exact⟨Nat.zero_add _,by assumption⟩|exact⟨rfl,by assumption⟩):Mz kk i ys K:=A0m he hk hi.1 hi.2 k
theorem Ap2 {f:α->AV} {n i:Nat} {j:Int} {p:AV} {K:List AV->Prop} (k:K ((Di l j x).map f)) (he:ys=l.map f:=by first|exact rfl|exact Li _|exact Lj _) (hp:p=f x:=by exact rfl) (hi:i=n/\j=(n:Int):=by first|exact⟨Nat.zero_add _,by assumption⟩|exact⟨rfl,by assumption⟩|exact⟨rfl,A0i _ (by assumption)⟩):Yn ys i p K:=Pz he hp hi.1 hi.2 k
theorem Kg {ys:List α} {f:α->AV} {len:Nat} {K:List AV->Nat->Prop} {KP:List AV->Nat->Nat->Prop} (h:(Ca b l ys).bind m=some r) (k:∀o:List α,m o=some r->K (o.map f) o.length) (he:xs=l.map f/\zs=ys.map f:=by first|exact⟨rfl,rfl⟩ | (refine⟨?_,?_⟩;rotate_left;exact rfl;exact rfl)) (hk:kk=l.length:=by first|exact rfl|assumption|exact I2 (by assumption) | ((repeat refine Jf ?_ _ _);first|exact rfl|assumption)) (hl:len=l.length:=by first|exact rfl|assumption|exact I2 (by assumption) | ((repeat refine Jf ?_ _ _);first|exact rfl|assumption)):Nz xs zs kk len b K KP:=Tg he.1 he.2 hk hl h k
theorem Ap3 {l:List Int} {s:ByteArray} {len:Nat} {m:List Int->Option β} {K:List AV->Nat->Prop} {KP:List AV->Nat->Nat->Prop} (h:(Ca b l (N4 s)).bind m=some r) (k:∀o:List Int,m o=some r->K (o.map λn=>.val (.int .u8 n)) o.length) (he:xs=l.map λn=>.val (.int .u8 n):=by exact rfl) (hk:kk=l.length:=by first|exact rfl|assumption|exact I2 (by assumption) | ((repeat refine Jf ?_ _ _);first|exact rfl|assumption)) (hl:len=l.length:=by first|exact rfl|assumption|exact I2 (by assumption) | ((repeat refine Jf ?_ _ _);first|exact rfl|assumption)):Nz xs (Kb s) kk len b K KP:=A0p he hk hl h k
class GL {α:Type} (g:List α->List AV) (f:outParam (α->AV)):Prop where
 eq:∀l,g l=l.map f
instance:GL Bh D2:=⟨Li⟩
instance:GL G6 Et:=⟨Lj⟩
theorem Ap4 {f:α->AV} [i:GL g f] {ys:List α} {len:Nat} {K:List AV->Nat->Prop} {KP:List AV->Nat->Nat->Prop} (h:(Ca b l ys).bind m=some r) (k:∀o:List α,m o=some r->K (g o) o.length) (hz:zs=ys.map f:=by first|exact rfl|exact GL.eq _) (hk:kk=l.length:=by first|exact rfl|assumption|exact I2 (by assumption) | ((repeat refine Jf ?_ _ _);first|exact rfl|assumption)) (hl:len=l.length:=by first|exact rfl|assumption|exact I2 (by assumption) | ((repeat refine Jf ?_ _ _);first|exact rfl|assumption)):Nz (g l) zs kk len b K KP:=A0q i.eq (i.eq l) hz hk hl h k
theorem Ap5 {ys:List α} {f:α->AV} {K:List AV->Nat->Prop} (h:(Ca b [] ys).bind m=some r) (k:∀o:List α,m o=some r->K (o.map f) o.length) (hz:zs=ys.map f:=by exact rfl):S9 zs b K:=Ao5 hz h k
theorem Ap6 {f:α->AV} [i:GL g f] {ys:List α} {K:List AV->Nat->Prop} (h:(Ca b [] ys).bind m=some r) (k:∀o:List α,m o=some r->K (g o) o.length) (hz:zs=g ys:=by exact rfl):S9 zs b K:=A0r i.eq (hz.trans (i.eq ys)) h k
theorem Jh {z:α} {f:α->AV} {za:AV} {len cap:Int} {K:Nat->List AV->Prop} (h:(Gz b len cap z).bind m=some r) (k:∀o:List α,m o=some r->K o.length (o.map f)) (hz:za=f z:=by first|exact (rfl:_=O _ _) | exact (rfl:_=Ar _) | exact rfl):Vu len cap b za K:=A0s hz h k
theorem Og {f:α->AV} {K:List AV->Prop} (h:(Er l lo hi).bind m=some r) (k:∀l':List α,m l'=some r->K (l'.map f)) (he:ys=l.map f:=by first|exact rfl|exact Li _|exact Lj _):Ny ys lo hi K:=Ajb he h k
theorem Ap7 {f:α->AV} [i:GL g f] {K:List AV->Prop} (h:(Er l lo hi).bind m=some r) (k:∀l':List α,m l'=some r->K (g l')):Ny (g l) lo hi K:=A0n i.eq (i.eq l) h k
theorem Xi {f:α->AV} [i:GL g f] {K:List AV->Prop} (h:(Er l lo l.length).bind m=some r) (k:∀l':List α,m l'=some r->K (g l')):Ny (g l) lo (g l).length K:=A0o i.eq (i.eq l) h k
theorem Aet {f:α->AV} {K:List AV->Prop} (h:(Er l lo l.length).bind m=some r) (k:∀l':List α,m l'=some r->K (l'.map f)) (he:ys=l.map f:=by first|exact rfl|exact Li _|exact Lj _):Ny ys lo ys.length K:=Ao4 he h k
theorem G2 {step:S->Option (S⊕E)} {b:Code} (h:(An step s0).bind J=some r) (iv:S->List (Nat×AV)) (hv:S->List (Nat×Bn)) (inv:S->Prop) (body:∀(s:S) (u:Nat->Value) (K:Nat->B5->Hp->Prop) (o:S⊕E),step s=some o->(∀x,.inr x=o->J x=some r)->(∀s' n' e' H',.inl s'=o->H5 e' (iv s')->H6 H' (Cq H (hv s')) n n->inv s'->K n' e' H')->inv s -> wc P C b K Qe Qr n (Kr (F9 b) e u (iv s)) (Cq H (hv s))) (hb:∀s,La n (iv s) (hv s)=true:=by exact λ_=>rfl) (hs:H5 e (iv s0):=by (repeat refine⟨rfl,?_⟩);exact trivial) (hh:H6 H (Cq H (hv s0)) n n:=by (repeat refine⟨⟨rfl,rfl⟩,?_⟩);exact trivial) (h0:inv s0:=by first|exact rfl|assumption|exact I2 (by assumption) | ((repeat refine Jf ?_ _ _);first|exact rfl|assumption)):wc P C (.loop b) Qn Qe Qr n e H:=Apd h iv hv inv hb hs hh h0 body
theorem A09 {step:S->Option (S⊕E)} {b:Code} (h:(An step s0).bind J=some r) (iv:S->List (Nat×AV)) (hv:S->List (Nat×Bn)) (body:∀(s:S) (u:Nat->Value) (K:Nat->B5->Hp->Prop) (o:S⊕E),step s=some o->(∀x,.inr x=o->J x=some r)->(∀s' n' e' H',.inl s'=o->H5 e' (iv s')->H6 H' (Cq H (hv s')) n n->True->K n' e' H') -> wc P C b K Qe Qr n (Kr (F9 b) e u (iv s)) (Cq H (hv s))) (hb:∀s,La n (iv s) (hv s)=true:=by exact λ_=>rfl) (hs:H5 e (iv s0):=by (repeat refine⟨rfl,?_⟩);exact trivial) (hh:H6 H (Cq H (hv s0)) n n:=by (repeat refine⟨⟨rfl,rfl⟩,?_⟩);exact trivial):wc P C (.loop b) Qn Qe Qr n e H:=Apd h iv hv (λ_=>True) hb hs hh trivial λs u K o h1 h2 h3 _=>body s u K o h1 h2 h3
theorem Aeu {S':Type} {c:Code} {o:Option S'} {m:S'->Option β} (inj:S->S') (h:o.bind m=some r) (iv:S->List (Nat×AV)) (hv:S->List (Nat×Bn)) (k1:∀x,o=some x->∀(K:Nat->B5->Hp->Prop),(∀s n' e' H',inj s=x->H5 e' (iv s)->H6 H' (Cq H (hv s)) n n->K n' e' H')->(∀y,y=x->m y=some r)->wc P C c K Qe Qr n e H) (k2:∀(s:S) (u:Nat->Value),m (inj s)=some r->Qn n (Kr (F9 c) e u (iv s)) (Cq H (hv s))) (hb:∀s,La n (iv s) (hv s)=true:=by exact λ_=>rfl):wc P C c Qn Qe Qr n e H := Ao1 h λx hx hj=>V5 (λs=>inj s=x) iv hv hb (λK hK=>k1 x hx K hK hj) λs u hs=>k2 s u (hj _ hs)
theorem Ml {c:Code} {o:Option S} {m:S->Option β} (h:o.bind m=some r) (iv:S->List (Nat×AV)) (hv:S->List (Nat×Bn)) (k1:∀x,o=some x->∀(K:Nat->B5->Hp->Prop),(∀s n' e' H',s=x->H5 e' (iv s)->H6 H' (Cq H (hv s)) n n->K n' e' H')->(∀y,y=x->m y=some r)->wc P C c K Qe Qr n e H) (k2:∀(s:S) (u:Nat->Value),m s=some r->Qn n (Kr (F9 c) e u (iv s)) (Cq H (hv s))) (hb:∀s,La n (iv s) (hv s)=true:=by exact λ_=>rfl):wc P C c Qn Qe Qr n e H:=Aeu (λs=>s) h iv hv k1 k2 hb
abbrev C0:Cfg:={T:=Cp,an:=λ_=>.ask}
theorem pw {f:FuncId} {c:Code} {args:List AV} {r:AV} (C:Cfg) (hf:prog.funcs[f]? = some fn) (hv:wc prog C c (λ_ e H=>Tc C.T fn.results.toList (· = r) e H) (λ_ _ _ _=>False) (λ_ e H=>Tc C.T fn.results.toList (· = r) e H) 0 (V2 args) H0) (hT:C.T=Cp:=by exact rfl) (hb:fn.body=some c:=by exact rfl) (hname:(fn.name == "runtime.NumGoroutine")=false:=by kernel_rfl) (hok:V3 fn c args.length=true:=by kernel_rfl) (hfree:r.free=true:=by exact rfl):Ay prog f args r:=A0u (by rw[hT];exact Api) Yr hf hb hname hok hfree hv
theorem aw {f:FuncId} {c:Code} {args:List AV} {r:AV} {hs':List Bn} (C:Cfg) (fz:Bool) (hf:prog.funcs[f]? = some fn) (hv:wc prog C c (λ_ e H=>Tf C.T fz fn.results.toList r hs' e H) (λ_ _ _ _=>False) (λ_ e H=>Tf C.T fz fn.results.toList r hs' e H) hs.length (V2 args) (hp hs)) (hT:C.T=Cp:=by exact rfl) (hb:fn.body=some c:=by exact rfl) (hname:(fn.name == "runtime.NumGoroutine")=false:=by kernel_rfl) (hok:V3 fn c args.length=true:=by kernel_rfl) (hok':Ai5 hs r hs'=true:=by exact rfl):Bv prog f args hs r hs':=A0v fz (by rw[hT];exact Api) Yr hf hb hname hok hok' hv
end
variable {P Q:Prop}
theorem opk {P:Program} {T:C9} {an:Nat->Ann} {nl:Nat->List (Nat×Nat)} {o:Oper} {n:Nat} {e:B5} {H:Hp} {acc:Jm} {K:Nat->B5->Hp->Jm->Prop} (k:opK P T an nl o n e H acc K):opK P T an nl o n e H acc K:=k
theorem cnd {t:Bool} {A B:Prop} (k:bif t then A else B):bif t then A else B:=k
structure Hd (Q:Prop):Prop where
 get:Q
theorem Z (k:Q) (h:Hd Q->P:=by
  intro q
  repeat first
    | ((with_reducible show Ga (Fy _ _ _ _ _ (_::_) _ _ _ _ _));(first|refine nx ?_|refine Ri ?_|refine Rh ?_))
    | ((with_reducible refine opk ?_);conv=>whnf
       first
      | ((with_reducible show Ga _);refine nw ?_)
      | ((with_reducible show Jb _ _ _);refine Jb.mk _ rfl ?_)
      | ((with_reducible show N0 _ _);refine R8 ?_)
      | ((with_reducible show Mz _ _ _ _);refine Sb ?_)
      | ((with_reducible show H9 _ _ _);(first|refine R9 ?_|refine Sa ?_)))
    | ((with_reducible show Ga (Fy _ _ _ _ _ [] _ _ _ _ _));refine M5 ?_)
    | ((with_reducible show Ga (wc _ _ _ _ _ _ _ _ _));refine nw ?_)
    | with_reducible refine Az ?_
    | with_reducible refine Hb ?_
    | with_reducible refine Ajf ?_
    | with_reducible refine Ld ?_
    | with_reducible refine Lf ?_
    | with_reducible refine Hk ?_
    | with_reducible refine Apa ?_
    | with_reducible refine Ajh ?_
    | with_reducible refine Ajg ?_
    | ((with_reducible refine cnd ?_);first|refine Hj rfl ?_|refine Ai0 rfl ?_)
    | ((with_reducible show N3 _ _ _);refine N3.mk κ ?_)
    | ((with_reducible show wc _ _ (.cond _ _ _) _ _ _ _ _ _);first|refine Adq ?_|refine Yy ?_)
    | refine nw ?_
    | refine nx ?_
    | refine M5 ?_
    | refine Ri ?_
    | refine Rh ?_
    | (conv=>whnf
       first
      | ((with_reducible show Ga _);refine nw ?_)
      | ((with_reducible show Jb _ _ _);refine Jb.mk _ rfl ?_)
      | ((with_reducible show N0 _ _);refine R8 ?_)
      | ((with_reducible show Mz _ _ _ _);refine Sb ?_)
      | ((with_reducible show H9 _ _ _);(first|refine R9 ?_|refine Sa ?_)))
  exact q.get):P:=h ⟨k⟩
theorem ZS (k:Q) (h:Hd Q->P:=by
  intro q
  repeat first
    | ((with_reducible show Ga (Fy _ _ _ _ _ (_::_) _ _ _ _ _));(first|refine nx ?_|refine Ri ?_|refine Rh ?_))
    | ((with_reducible refine opk ?_);conv=>whnf
       first
      | ((with_reducible show Ga _);refine nw ?_)
      | ((with_reducible show Jb _ _ _);refine Jb.mk _ rfl ?_)
      | ((with_reducible show N0 _ _);refine R8 ?_)
      | ((with_reducible show Mz _ _ _ _);refine Sb ?_)
      | ((with_reducible show H9 _ _ _);(first|refine R9 ?_|refine Sa ?_)))
    | ((with_reducible show Ga (Fy _ _ _ _ _ [] _ _ _ _ _));refine M5 ?_)
    | ((with_reducible show Ga (wc _ _ _ _ _ _ _ _ _));refine nw ?_)
    | with_reducible refine Az ?_
    | with_reducible refine Ajf ?_
    | with_reducible refine Ld ?_
    | with_reducible refine Lf ?_
    | with_reducible refine Hk ?_
    | with_reducible refine Ajh ?_
    | with_reducible refine Ajg ?_
    | ((with_reducible refine cnd ?_);first|refine Hj rfl ?_|refine Ai0 rfl ?_)
    | ((with_reducible show N3 _ _ _);refine N3.mk κ ?_)
    | ((with_reducible show wc _ _ (.cond _ _ _) _ _ _ _ _ _);first|refine Adq ?_|refine Yy ?_)
    | refine nw ?_
    | refine nx ?_
    | refine M5 ?_
    | refine Ri ?_
    | refine Rh ?_
    | (conv=>whnf
       first
      | ((with_reducible show Ga _);refine nw ?_)
      | ((with_reducible show Jb _ _ _);refine Jb.mk _ rfl ?_)
      | ((with_reducible show N0 _ _);refine R8 ?_)
      | ((with_reducible show Mz _ _ _ _);refine Sb ?_)
      | ((with_reducible show H9 _ _ _);(first|refine R9 ?_|refine Sa ?_)))
  exact q.get):P:=h ⟨k⟩
theorem ZO (k:Q) (h:Hd Q->P:=by
  intro q
  repeat first
    | ((with_reducible show Ga (Fy _ _ _ _ _ (_::_) _ _ _ _ _));(first|refine nx ?_|refine Ri ?_|refine Rh ?_))
    | ((with_reducible refine opk ?_);conv=>whnf
       first
      | ((with_reducible show Jb _ _ _);refine Jb.mk _ rfl ?_)
      | ((with_reducible show N0 _ _);refine R8 ?_)
      | ((with_reducible show Mz _ _ _ _);refine Sb ?_)
      | ((with_reducible show H9 _ _ _);(first|refine R9 ?_|refine Sa ?_)))
    | ((with_reducible show Ga (Fy _ _ _ _ _ [] _ _ _ _ _));refine M5 ?_)
    | ((with_reducible show N3 _ _ _);refine N3.mk κ ?_)
    | refine nx ?_
    | refine M5 ?_
    | refine Ri ?_
    | refine Rh ?_
    | (conv=>whnf
       first
      | ((with_reducible show Jb _ _ _);refine Jb.mk _ rfl ?_)
      | ((with_reducible show N0 _ _);refine R8 ?_)
      | ((with_reducible show Mz _ _ _ _);refine Sb ?_)
      | ((with_reducible show H9 _ _ _);(first|refine R9 ?_|refine Sa ?_)))
  exact q.get):P:=h ⟨k⟩
theorem Y (h:P:=by
  repeat' first
    | ((with_reducible show Ga (Fy _ _ _ _ _ (_::_) _ _ _ _ _));first|refine nx ?_|refine Ri ?_|refine Rh ?_|refine Hh h (λ_ h=>?_) (λ_ h=>?_))
    | ((with_reducible refine opk ?_);conv=>whnf
       first
      | ((with_reducible show Ga _);refine nw ?_)
      | ((with_reducible show Jb _ _ _);refine Jb.mk _ rfl ?_)
      | ((with_reducible show N0 _ _);refine R8 ?_)
      | ((with_reducible show Gc _ _ _ _ _ _);(first|refine Ur h (λ_ h=>?_) | refine Ap1 h (λ_ h=>?_)))
      | ((with_reducible show Vt _ _ _);refine Of h (λ_ _ _ _ h=>?_))
      | ((with_reducible show S8 _ _ _ _ _);(first|refine L5 h (λ_ _ _ _ h=>?_) | refine Xh h (λ_ _ _ _ h=>?_)))
      | ((with_reducible show Mz _ _ _ _);refine Sb ?_)
      | ((with_reducible show Yn _ _ _ _);refine Ap2 ?_)
      | ((with_reducible show Nz _ _ _ _ _ _ _);(first|refine Ap3 h (λ_ h=>?_) | refine Kg h (λ_ h=>?_) | refine Ap4 h (λ_ h=>?_)))
      | ((with_reducible show S9 _ _ _);(first|refine Ap5 h (λ_ h=>?_) | refine Ap6 h (λ_ h=>?_)))
      | ((with_reducible show Vu _ _ _ _ _);refine Jh h (λ_ h=>?_))
      | ((with_reducible show Ny _ _ _ _);(first|refine Xi h (λ_ h=>?_) | refine Aet h (λ_ h=>?_) | refine Ap7 h (λ_ h=>?_) | refine Og h (λ_ h=>?_)))
      | ((with_reducible show H9 _ _ _);(first|refine R9 ?_|refine Sa ?_))
      | ((with_reducible show Ac4 _ _ _);refine N5 h (λ_ h=>?_))
      | ((with_reducible show Ac0 _ _ _ _);refine Yx h (λ_ h=>?_))
      | ((with_reducible show Ac1 _ _ _);refine Ado h (λ_ h=>?_))
      | ((with_reducible show Aim _ _ _ _);refine ob_shl h (λ_ h=>?_))
      | ((with_reducible show Ac2 _ _ _ _);refine Ao8 h (λ_ h=>?_))
      | ((with_reducible show Ac3 _ _ _ _);refine Ajd h (λ_ _ _ _ h=>?_))
      | ((with_reducible show Ac5 _ _);refine It h (λh=>?_))
      | ((with_reducible show Ain _ _);refine ob_str h (λ_ h=>?_))
      | ((with_reducible show Ac6 _ _ _ _ _);refine Ao2 h (λ_ h=>?_))
      | ((with_reducible show Ac7 _ _ _ _);refine Ao3 h (λ_ h=>?_)))
    | ((with_reducible show Ga (Fy _ _ _ _ _ [] _ _ _ _ _));refine M5 ?_)
    | ((with_reducible show Ga (wc _ _ _ _ _ _ _ _ _));refine nw ?_)
    | with_reducible refine Az ?_
    | with_reducible refine Hb ?_
    | with_reducible refine Ajf ?_
    | with_reducible refine Ld ?_
    | with_reducible refine Lf ?_
    | with_reducible refine Hk ?_
    | with_reducible refine Apa ?_
    | with_reducible refine Ajh ?_
    | with_reducible refine Ajg ?_
    | ((with_reducible refine cnd ?_);first|refine Hj rfl ?_|refine Ai0 rfl ?_)
    | ((with_reducible show wc _ _ (.cond _ _ _) _ _ _ _ _ _);first|refine Dx h (λ_ h=>?_) (λ_ h=>?_) | refine Adq ?_|refine Yy ?_)
    | ((with_reducible show N3 _ _ _);refine N3.mk κ ?_)
    | refine nx ?_
    | refine M5 ?_
    | refine Ri ?_
    | refine Rh ?_
    | refine Hh h (λ_ h=>?_) (λ_ h=>?_)
    | exact lpn h
    | exact jnn h
    | replace h:=Cv h
    | replace h:=lpj h
    | refine nw ?_
    | (conv=>whnf
       first
      | ((with_reducible show Ga _);refine nw ?_)
      | ((with_reducible show Jb _ _ _);refine Jb.mk _ rfl ?_)
      | ((with_reducible show N0 _ _);refine R8 ?_)
      | ((with_reducible show Gc _ _ _ _ _ _);(first|refine Ur h (λ_ h=>?_) | refine Ap1 h (λ_ h=>?_)))
      | ((with_reducible show Vt _ _ _);refine Of h (λ_ _ _ _ h=>?_))
      | ((with_reducible show S8 _ _ _ _ _);(first|refine L5 h (λ_ _ _ _ h=>?_) | refine Xh h (λ_ _ _ _ h=>?_)))
      | ((with_reducible show Mz _ _ _ _);refine Sb ?_)
      | ((with_reducible show Yn _ _ _ _);refine Ap2 ?_)
      | ((with_reducible show Nz _ _ _ _ _ _ _);(first|refine Ap3 h (λ_ h=>?_) | refine Kg h (λ_ h=>?_) | refine Ap4 h (λ_ h=>?_)))
      | ((with_reducible show S9 _ _ _);(first|refine Ap5 h (λ_ h=>?_) | refine Ap6 h (λ_ h=>?_)))
      | ((with_reducible show Vu _ _ _ _ _);refine Jh h (λ_ h=>?_))
      | ((with_reducible show Ny _ _ _ _);(first|refine Xi h (λ_ h=>?_) | refine Aet h (λ_ h=>?_) | refine Ap7 h (λ_ h=>?_) | refine Og h (λ_ h=>?_)))
      | ((with_reducible show H9 _ _ _);(first|refine R9 ?_|refine Sa ?_))
      | ((with_reducible show Ac4 _ _ _);refine N5 h (λ_ h=>?_))
      | ((with_reducible show Ac0 _ _ _ _);refine Yx h (λ_ h=>?_))
      | ((with_reducible show Ac1 _ _ _);refine Ado h (λ_ h=>?_))
      | ((with_reducible show Aim _ _ _ _);refine ob_shl h (λ_ h=>?_))
      | ((with_reducible show Ac2 _ _ _ _);refine Ao8 h (λ_ h=>?_))
      | ((with_reducible show Ac3 _ _ _ _);refine Ajd h (λ_ _ _ _ h=>?_))
      | ((with_reducible show Ac5 _ _);refine It h (λh=>?_))
      | ((with_reducible show Ain _ _);refine ob_str h (λ_ h=>?_))
      | ((with_reducible show Ac6 _ _ _ _ _);refine Ao2 h (λ_ h=>?_))
      | ((with_reducible show Ac7 _ _ _ _);refine Ao3 h (λ_ h=>?_)))
    | (have h:=Option.some.inj h;subst h;exact rfl)
    | (cases h;(repeat refine⟨rfl,?_⟩);exact trivial)
    | (cases h;done)
):P:=h
section
variable {P:Program} {C:Cfg} {Qn:Nat->B5->Hp->Prop} {Qe:Nat->Nat->B5->Hp->Prop} {Qr:Nat->B5->Hp->Prop} {n:Nat} {e:B5} {H:Hp} {β:Type} {r:β} {P0 Q:Prop}
variable {t:Bool} {a b:Code} {K:Eff->Nat->Prop} {largs:List AV} {hs:List Bn} {m m':Option β} {S α:Type} {o:Option α} {ra:α->AV} {hs':α->List Bn} {G:α->Prop}
theorem Bj {c:Operand} (h:(bif t then m else m')=some r) (h1:t=true->m=some r->wc P C a Qn Qe Qr n e H) (h2:t=false->m'=some r->wc P C b Qn Qe Qr n e H) (hz:Hd (wc P C (.cond c a b) Qn Qe Qr n e H)->P0:=by exact λq=>Z q.get) (hx:ev e c = .val (.bool t):=by exact rfl):P0:=hz ⟨Dx h h1 h2 hx⟩
theorem Bu {c:Operand} (h:(bif t then m else m')=some r) (h2:t=false->m'=some r->wc P C b Qn Qe Qr n e H) (hz:Hd (wc P C (.cond c a b) Qn Qe Qr n e H)->P0:=by exact λq=>Z q.get) (hx:ev e c = .val (.bool t):=by exact rfl) (h1:t=true->m=some r->wc P C a Qn Qe Qr n e H:=by intro _ h;exact Y):P0:=hz ⟨Dx h h1 h2 hx⟩
theorem A6 {E:Type} {step:S->Option (S⊕E)} {s0:S} {J:E->Option β} (h:(An step s0).bind J=some r) (iv:S->List (Nat×AV)) (hv:S->List (Nat×Bn)) (body:∀(s:S) (u:Nat->Value) (K:Nat->B5->Hp->Prop) (o:S⊕E),step s=some o->(∀x,.inr x=o->J x=some r)->(∀s' n' e' H',.inl s'=o->H5 e' (iv s')->H6 H' (Cq H (hv s')) n n->True->K n' e' H') -> wc P C b K Qe Qr n (Kr (F9 b) e u (iv s)) (Cq H (hv s))) (hz:Hd (wc P C (.loop b) Qn Qe Qr n e H)->P0:=by exact λq=>Z q.get) (hb:∀s,La n (iv s) (hv s)=true:=by exact λ_=>rfl) (hs:H5 e (iv s0):=by (repeat refine⟨rfl,?_⟩);exact trivial) (hh:H6 H (Cq H (hv s0)) n n:=by (repeat refine⟨⟨rfl,rfl⟩,?_⟩);exact trivial):P0:=hz ⟨A09 h iv hv body hb hs hh⟩
theorem Be {m:α->Option β} {f:FuncId} {args:List AV} (h:o.bind m=some r) [i:OK o G] (k:∀v,m v=some r->K ⟨ra v,[],[]⟩ n) (hz:Hd (Gc P n H f args K)->P0:=by exact λq=>Z q.get) (hG:∀v,G v->Ay P f args (ra v):=by exact λ_ h=>h) (hf:args.all AV.free=true:=by exact rfl):P0:=hz ⟨Ur h k hG hf⟩
theorem B3 {l:List α} {f:α->AV} {ys:List AV} {i:Int} {m:α->Option β} {K:Nat->AV->Prop} (h:(Ag l i).bind m=some r) (k:∀(n:Nat) (x:α),i=n->l[n]? = some x->m x=some r->K n (f x)) (hz:Hd (Vt ys i K)->P0:=by exact λq=>Z q.get) (he:ys=l.map f:=by first|exact rfl|exact Li _|exact Lj _):P0:=hz ⟨Aja he h k⟩
theorem C7 {m:α->Option β} {f:FuncId} {args:List AV} (l:List Nat) (h:o.bind m=some r) [i:OK o G] (k:∀v,m v=some r->K ⟨ren (Ds n l) (ra v),Fx (Ds n l) 0 hs++Cm (Ds n l) l.length ((hs' v).length-l.length),Fx (Ds n l) 0 (hs' v)⟩ (n+((hs' v).length-l.length))) (hz:Hd (Gc P n H f args K)->P0:=by exact λq=>Z q.get) (hG:∀v,G v->Bv P f largs hs (ra v) (hs' v):=by exact λ_ h=>h) (ha:largs.map (ren (Ds n l))=args:=by exact rfl) (ok:∀v,Nx n l largs hs (ra v) (hs' v)=true:=by exact λ_=>rfl) (hh:Oy H (Fx (Ds n l) 0 hs):=by (repeat refine⟨rfl,?_⟩);exact trivial):P0:=hz ⟨Aav l h k hG ha ok hh⟩
theorem Cj {m:α->Option β} {f:FuncId} {args:List AV} (l:List Nat) (h:o.bind m=some r) [i:OK o G] (hz:Hd (Gc P n H f args K)->P0:=by exact λq=>Z q.get) (hG:∀v,G v->Bv P f largs hs (ra v) (hs' v):=by exact λ_ h=>h) (ha:largs.map (ren (Ds n l))=args:=by exact rfl) (ok:∀v,Nx n l largs hs (ra v) (hs' v)=true:=by exact λ_=>rfl) (hh:Oy H (Fx (Ds n l) 0 hs):=by (repeat refine⟨rfl,?_⟩);exact trivial) (k:∀v,m v=some r->K ⟨ren (Ds n l) (ra v),Fx (Ds n l) 0 hs++Cm (Ds n l) l.length ((hs' v).length-l.length),Fx (Ds n l) 0 (hs' v)⟩ (n+((hs' v).length-l.length)):=by
 intro _ h
 exact Y):P0:=hz ⟨Aav l h k hG ha ok hh⟩
theorem Cr {c:Code} {o:Option S} {m:S->Option β} (h:o.bind m=some r) (iv:S->List (Nat×AV)) (hv:S->List (Nat×Bn)) (k2:∀(s:S) (u:Nat->Value),m s=some r->Qn n (Kr (F9 c) e u (iv s)) (Cq H (hv s))) (hb:∀s,La n (iv s) (hv s)=true:=by exact λ_=>rfl) (k1:∀x,o=some x->∀(K:Nat->B5->Hp->Prop),(∀s n' e' H',s=x->H5 e' (iv s)->H6 H' (Cq H (hv s)) n n->K n' e' H')->(∀y,y=x->m y=some r)->wc P C c K Qe Qr n e H:=by
 intro _ h _ _ _
 exact Y):wc P C c Qn Qe Qr n e H:=Ml h iv hv k1 k2 hb
theorem ZR {id:Nat} {os:List Oper} (k:Q) (h1:Hd (wc P C (.region id os.toArray false) Qn Qe Qr n e H)->P0:=by exact λq=>ZS q.get) (h2:Hd Q->Ga (Fy P C.T C.an C.nl os.toArray os n e H [] λn e H _=>Qn n e H):=by exact λq=>ZO q.get):P0:=h1 ⟨Hb (h2 ⟨k⟩)⟩
end
set_option maxRecDepth 10000
set_option linter.unusedVariables false
theorem A1a {a0 r:List Ek} (h:Ca 16 [] a0=some r):Ay prog 192 [Ax 2 Jg a0] (Ax 2 Jg r):=by
 have h:((Ca 16 [] a0).bind λo=>some o)=some r:=by rw[h];rfl
 refine pw {T:=Cp,an:=(λs=>bif Nat.beq s 5 then .own else .ask),nl:=(λs=>bif Nat.beq s 2 then [(0,2)] else [])} func192 ?_;refine Az ?_;refine Hb ?_;refine ZO ?_;refine Az (Az ?_);refine V5 (λb:Bool=>b=true->a0 = []) (λb=>[(4,Ar b)]) (λ_=>[]) (λ_=>rfl) ?_ ?_
 .intro K hK;refine Adr 0 ?_;intro v hv;obtain⟨p,c,rfl,hp⟩:=hv 2 (a0.map Jg) rfl;refine Hb ?_;refine nx ?_;refine nx ?_;refine M5 ?_;refine hK p.isNone _ _ _ (λe=>?_) ⟨rfl,trivial⟩ trivial;cases p with| none=>simpa using hp rfl| some _=>cases e
 .rintro b _ hb;cases b with
  | true=>have hb:=hb rfl;subst hb;have h:some ([]:List Ek)=some r:=(by rw[<-h];rfl);exact Y
  | false=>refine Z ?_;exact Y
theorem A1b {a0:List Bf} {r:List Bf×List Bf} (h:P3 40 a0=some r):Bv prog 63 [Ax 3 F0 a0] [] (.arr 1 r.2.length 0 r.2.length) [.rows 114 3 (r.1.map F0),.rows 114 3 (r.2.map F0)]:=by
 have h:((Ca 40 [] a0).bind λo=>some (([]:List Bf),o))=some r:=h;refine aw {T:=Cp,an:=(λs=>bif Nat.beq s 5 then .own else bif Nat.beq s 2 then .own else .ask),nl:=(λ_=>[])} false func63 ?_;refine Az ?_;refine Hb ?_;refine ZO ?_;refine Az (Az ?_);refine V5 (λb:Bool=>b=true->a0 = []) (λb=>[(4,Ar b)]) (λ_=>[]) (λ_=>rfl) ?_ ?_
 .intro K hK;refine Adr 0 ?_;intro v hv;obtain⟨p,c,rfl,hp⟩:=hv 3 (a0.map F0) rfl;refine Hb ?_;refine nx ?_;refine nx ?_;refine M5 ?_;refine hK p.isNone _ _ _ (λe=>?_) ⟨rfl,trivial⟩ ⟨⟨rfl,rfl⟩,trivial⟩;cases p with| none=>simpa using hp rfl| some _=>cases e
 .rintro b _ hb;cases b with
  | true=>have hb:=hb rfl;subst hb;have h:some (([]:List Bf),([]:List Bf))=some r:=(by rw[<-h];rfl);cases h;refine ZO ?_;exact Y
  | false=>refine Z ?_;refine ZO ?_;refine Kg h (λ_ h=>?_);exact Y
theorem A1c {a0:List Bi} {r:List Bi×List Bi} (h:P3 40 a0=some r):Bv prog 69 [Ax 3 F1 a0] [] (.arr 1 r.2.length 0 r.2.length) [.rows 117 3 (r.1.map F1),.rows 117 3 (r.2.map F1)]:=by
 have h:((Ca 40 [] a0).bind λo=>some (([]:List Bi),o))=some r:=h;refine aw {T:=Cp,an:=(λs=>bif Nat.beq s 5 then .own else bif Nat.beq s 2 then .own else .ask),nl:=(λ_=>[])} false func69 ?_;refine Az ?_;refine Hb ?_;refine ZO ?_;refine Az (Az ?_);refine V5 (λb:Bool=>b=true->a0 = []) (λb=>[(4,Ar b)]) (λ_=>[]) (λ_=>rfl) ?_ ?_
 .intro K hK;refine Adr 0 ?_;intro v hv;obtain⟨p,c,rfl,hp⟩:=hv 3 (a0.map F1) rfl;refine Hb ?_;refine nx ?_;refine nx ?_;refine M5 ?_;refine hK p.isNone _ _ _ (λe=>?_) ⟨rfl,trivial⟩ ⟨⟨rfl,rfl⟩,trivial⟩;cases p with| none=>simpa using hp rfl| some _=>cases e
 .rintro b _ hb;cases b with
  | true=>have hb:=hb rfl;subst hb;have h:some (([]:List Bi),([]:List Bi))=some r:=(by rw[<-h];rfl);cases h;refine ZO ?_;exact Y
  | false=>refine Z ?_;refine ZO ?_;refine Kg h (λ_ h=>?_);exact Y
theorem A1d {a0:List Ai} {r:List Ai×List Ai} (h:P3 32 a0=some r):Bv prog 288 [Ax 2 Et a0] [] (.arr 1 r.2.length 0 r.2.length) [.rows 112 2 (r.1.map Et),.rows 112 2 (r.2.map Et)]:=by
 have h:((Ca 32 [] a0).bind λo=>some (([]:List Ai),o))=some r:=h;refine aw {T:=Cp,an:=(λs=>bif Nat.beq s 5 then .own else bif Nat.beq s 2 then .own else .ask),nl:=(λ_=>[])} false func288 ?_;refine Az ?_;refine Hb ?_;refine ZO ?_;refine Az (Az ?_);refine V5 (λb:Bool=>b=true->a0 = []) (λb=>[(4,Ar b)]) (λ_=>[]) (λ_=>rfl) ?_ ?_
 .intro K hK;refine Adr 0 ?_;intro v hv;obtain⟨p,c,rfl,hp⟩:=hv 2 (a0.map Et) rfl;refine Hb ?_;refine nx ?_;refine nx ?_;refine M5 ?_;refine hK p.isNone _ _ _ (λe=>?_) ⟨rfl,trivial⟩ ⟨⟨rfl,rfl⟩,trivial⟩;cases p with| none=>simpa using hp rfl| some _=>cases e
 .rintro b _ hb;cases b with
  | true=>have hb:=hb rfl;subst hb;have h:some (([]:List Ai),([]:List Ai))=some r:=(by rw[<-h];rfl);cases h;refine ZO ?_;exact Y
  | false=>refine Z ?_;refine ZO ?_;refine Kg h (λ_ h=>?_);exact Y
end Go.Ab
namespace Go.Ab
open Go Go.Proofs Go.Shelf Go.Proofs.Tryz
set_option maxRecDepth 100000
set_option linter.unusedVariables false
variable {F σ:A5} {ι:Cd} {H:Hp} {w:World}
theorem C2.up {w':World} {x:Nat} (h:C2 σ ι H F w x) (hk:∀(b:Nat) (o:Obj),w.heap[b]? = some o->w'.heap[b]? = some o):C2 σ ι H F w' x:=by
 unfold C2 at h ⊢;cases hx:H x with
 | none=>rw[hx]at h;exact h
 | dead=>trivial
 | cells E cs=>rw[hx]at h;obtain⟨b,C,h1,h2,h3,g,f⟩:=h;exact⟨b,C,h1,h2,h3,hk _ _ g,f⟩
 | rows E sz xs=>
  rw[hx]at h;obtain⟨h0,h1,h2⟩:=h;refine⟨h0,h1,?_⟩;rcases h2 with h2|⟨b,c,C,q,l,k,j,i⟩
  .exact .inl h2
  .exact .inr ⟨b,c,C,q,l,k,hk _ _ j,i⟩
 | map es=>rw[hx]at h;obtain⟨b,M,t,h1,h2,h3,g,f⟩:=h;exact⟨b,M,t,h1,h2,h3,hk _ _ g,f⟩
theorem St.growG {W:World} (s:St σ ι H F W w) (k:Nat) (os:Array Obj):St σ ι H F W (Sort.grow (Sort.ahead w k) os):=by
 have hk:∀(b:Nat) (o:Obj),w.heap[b]? = some o->(Sort.grow (Sort.ahead w k) os).heap[b]? = some o:=by intro b o h;have c:=(Array.getElem?_eq_some_iff.1 h).1;show (w.heap++os)[b]? = _;rw[Array.getElem?_append_left c];exact h
 exact⟨λb o h=>hk b o (s.sto b o h),λb o h=>⟨hk b o (s.fra b o h).1,(s.fra b o h).2⟩,λh=>(s.obj h).up hk,s.inj,s.os,s.tape,s.output,s.glo,Nat.le_trans s.drw (Nat.le_add_right _ _)⟩
theorem A1e {α:Type} [Inhabited α] (enc:α->Value) (w:World) (b:Nat) (d:Array α) (C:Array Value) (E:TypeId) (h:w.heap[b]? = some (.cells C E (0,0))):Sort.putRow enc w b 0 d=w.setRow b (Sort.putCells enc 0 d C):=by
 have c:(Sort.putRow enc w b 0 d).heap=(w.setRow b (Sort.putCells enc 0 d C)).heap:=by
  apply Array.ext_getElem?;intro i;simp only[Sort.putRow,Sort.mapBlock,World.setRow,Array.getElem?_modify];split
  .rename_i e;subst e;rw[h];simp[Sort.onCells]
  .rfl
 unfold Sort.putRow Sort.mapBlock World.setRow at c ⊢;simp only at c;rw[c]
end Go.Ab
namespace Go.Ab
open Go Go.Proofs Go.Shelf Go.Sort Go.Proofs.Tryz
set_option maxRecDepth 100000
set_option linter.unusedVariables false
variable {σ:A5} {g:Nat} {α:Type} {v:Value} {r:List α} {eA:α->AV} {cmp:α->α->Option Int}
theorem A1f (h:Fj v=true):v.oneCell'=true:=by cases v <;> first|rfl|cases h
theorem A1g {ι:Cd} {H:Hp} {f:FuncId} (h:Conc σ ι H (.fn f []) v):v = .func (.func f) #[] #[]:=by cases h with| cc h=>cases h| fn _ _ vs b _=>have:vs = #[]:=Array.size_eq_zero_iff.1 (by simpa using b);rw[this]
def Ap8 (σ:A5) (eA:α->AV) (sz:Nat) (S:List α) (x:α) (c:List Value):Prop := x∈S/\(eA x).cells.length=sz/\c.length=sz/\∀(j:Nat) (a:AV) (v:Value),(eA x).cells[j]? = some a->c[j]? = some v->CC σ a v/\Fj v=true
abbrev Pc {α:Type} (σ:A5) (eA:α->AV) (sz:Nat) (S:List α):Type:={p:α×List Value // Ap8 σ eA sz S p.1 p.2}
theorem A1h {W w':World} (g:∀b o,W.heap[b]? = some o->σ b=some o) (s:St σ ι0 H0 (λ_=>none) W w'):∃q f,w'=grow (W.drewN q) f:=by
 have hk:∀b o,W.heap[b]? = some o->w'.heap[b]? = some o:=λb o h=>s.sto b o (g b o h);have j:W.heap.size<=w'.heap.size:=by
  rcases Nat.eq_zero_or_pos W.heap.size with h|h
  .omega
  .have:=hk (W.heap.size-1) _ (Array.getElem?_eq_getElem ω);have:=(Array.getElem?_eq_some_iff.1 this).1;omega
 refine⟨w'.drawn-W.drawn,w'.heap.extract W.heap.size w'.heap.size,?_⟩;have c:w'.heap=W.heap++w'.heap.extract W.heap.size w'.heap.size:=by
  apply Array.ext_getElem?;intro i;by_cases hi:i<W.heap.size
  .rw[Array.getElem?_append_left hi,Array.getElem?_eq_getElem hi];exact hk i _ (Array.getElem?_eq_getElem hi)
  .rw[Array.getElem?_append_right ω];by_cases hj:i<w'.heap.size
   .rw[Array.getElem?_eq_getElem hj,Array.getElem?_eq_getElem ζ];simp only[Array.getElem_extract];congr 2;omega
   .rw[Array.getElem?_eq_none ω,Array.getElem?_eq_none ζ]
 have h1:=s.os;have h2:=s.tape;have h3:=s.output;have k:=s.drw;cases w' with| mk heap tape drawn os output=>simp only at h1 h2 h3 k c;unfold grow World.drewN;simp only[World.mk.injEq];exact⟨c,h2,ω,h1,h3⟩
theorem Ap9 {ρ:Ren} {E:TypeId} {sz f:Nat} (L:SlLaysF0.n6 prog ρ) (hf:ρ.f 6=f) (a7:Acz prog f) (aE:∀w,(isAgg (ρ.t 24)).run prog w = .ok true w) (zE:∀w,(Go.sizeOf (ρ.t 24)).run prog w = .ok sz w) (eg:∀args w,(callFunc g args).run prog w = .ok (.enter g args) w) (ay:∀x y n,cmp x y=some n->Ay prog g [eA x,eA y] (O .i64 n)) (b3:∀x,∃cs,eA x = .agg cs) {l:List α} (h:P2 cmp l=some r) (ak:l≠[]) : Bv prog f [.arr 0 l.length 0 l.length,.fn g []] [.rows E sz (l.map eA)] (.tup []) [.rows E sz (r.map eA)]:=by
 obtain⟨cf,law,be,I,A⟩:=A0y h;refine⟨a7,λσ F W w ι vs s ax=>?_⟩;obtain⟨v,v2,rfl,G,b6⟩:=Aj5 ax;obtain rfl:=A1g b6;have hh:hp [.rows E sz (l.map eA)] 0 = .rows E sz (l.map eA):=rfl;have R:=G.arr_inv hh ψ;have hor:=s.obj 0;unfold C2 at hor;rw[hh]at hor;obtain⟨U,ao,hor⟩:=hor;rw[length_map]at ao;rcases hor with⟨_,ai⟩|⟨b,V,D,hb,g1,g2,g3,g4,g5,g6⟩
 .exact (ak (by simpa using ai)).elim
 rw[length_map]at g5;unfold Hs at R;rw[hb]at R;simp only[Nat.zero_mul,Nat.sub_zero]at R;obtain⟨ht,ab⟩:=R;subst ab;obtain⟨gg,q1,q2,q3⟩:=g6;have aa:∀(i:Nat) (x:α),l[i]? = some x->(l.map eA)[i]? = some (eA x):=λi x hx=>by rw[getElem?_map,hx];rfl
 have a1:∀(i:Nat) (hi:i<l.length),Ap8 σ eA sz l l[i] ((range sz).map (gg i)):=by intro i hi;have hx:l[i]? = some l[i]:=getElem?_eq_getElem hi;refine⟨getElem_mem hi,q1 i _ (aa i _ hx),ψ,λj a v ha G=>?_⟩;rw[getElem?_map,Option.map_eq_some_iff]at G;obtain⟨k,hk,rfl⟩:=G;have ba:k=j:=(by have:=(List.getElem?_eq_some_iff.1 hk).2;simpa using this.symm);subst ba;exact q2 i _ k a (aa i _ hx) ha
 have hpos:0<l.length:=length_pos_iff.2 ak;let d:Array (Pc σ eA sz l):=Array.ofFn λi:Fin l.length=>⟨(l[i.1],(range sz).map (gg i.1)),a1 i.1 i.2⟩
 haveI:Inhabited (Pc σ eA sz l):=⟨⟨(l[0],(range sz).map (gg 0)),a1 0 hpos⟩⟩;have B:d.size=l.length:=by simp[d]
 have bb:∀i (hi:i<l.length),d[i]! = ⟨(l[i],(range sz).map (gg i)),a1 i hi⟩:=λi hi=>by rw[getElem!_pos d i (by rw[B];exact hi)];simp[d]
 let enc:Pc σ eA sz l->List Value:=λp=>p.1.2
 have hk:∀x:Pc σ eA sz l,(enc x).length=sz:=λx=>x.2.2.2.1;have h1:∀x:Pc σ eA sz l,∀v∈enc x,v.oneCell'=true:=by intro x v G;obtain⟨j,hj⟩:=getElem?_of_mem G;have q:=(List.getElem?_eq_some_iff.1 hj).1;rw[hk x]at q;have ha:(eA x.1.1).cells[j]? = some ((eA x.1.1).cells[j]'(by rw[x.2.2.1];exact q)):=getElem?_eq_getElem _;exact A1f (x.2.2.2.2 j _ v ha hj).2
 let a8:Pc σ eA sz l->Pc σ eA sz l->Int:=λx y=>cf x.1.1 y.1.1
 have hO:SWO (ltOf a8):=by
  constructor
  .intro x;exact decide_eq_false (law.irr x.1.1)
  .intro x y z Y X;exact decide_eq_true (law.trs _ _ _ (of_decide_eq_true Y) (of_decide_eq_true X))
  .intro x y z Y X;exact decide_eq_false (law.ntr _ _ _ (of_decide_eq_false Y) (of_decide_eq_false X))
 have hH:HoldsK enc sz w b 0 d:=by
  intro t Z;rw[size_flatK,B]at Z;have ad:t / sz<l.length:=Nat.div_lt_of_lt_mul (by rw[Nat.mul_comm];exact Z);have ac:t % sz<sz:=Nat.mod_lt _ U;rw[get_flatK _ _ _ _ (by rw[B];exact Z),bb _ ad];have e:=q3 (t / sz) (t % sz) (by rw[length_map];exact ad) ac;rw[show t / sz*sz+t % sz=t by rw[Nat.mul_comm];exact Nat.div_add_mod t sz]at e;refine⟨?_,?_⟩
  .rw[Nat.zero_add,Kp g3,e];show some _=some (id _);congr 1;show gg _ _=((range sz).map (gg (t / sz)))[t % sz]!;rw[getElem!_pos _ _ (by simpa using ac)];simp
  .simp[World.frozen?,g3]
 have hblk:b<w.heap.size:=(Array.getElem?_eq_some_iff.1 g3).1;have hC:CmpLays prog g #[] enc sz a8 b 0 d.size w:=by
  intro m os dk hs x y;generalize b5:sortWorldK enc sz w b 0 m dk os=S;have aq:∀b' o,σ b'=some o->S.heap[b']? = some o:=(by intro b' o ho;have aj:b≠b':=(by rintro rfl;rw[g1]at ho;cases ho);have e:=s.sto b' o ho;have q:=(Array.getElem?_eq_some_iff.1 e).1;rw[<-b5];show ((w.heap.modify b _)++os)[b']? = _;rw[Array.getElem?_append_left (by simpa using q),Array.getElem?_modify,if_neg aj];exact e);have au:=be x.1.1 x.2.1 y.1.1 y.2.1;have hp:=ay _ _ _ au;have s1:St ((λb=>S.heap[b]?)) ι0 H0 (λ_=>none) S S:=⟨λ_ _ e=>e,(λ_ _ e=>by cases e),λ_=>rfl,(λ_ _ _ hl=>by cases hl),rfl,rfl,rfl,s.glo.mono aq,Nat.le_refl _⟩;have az:∀z:Pc σ eA sz l,Conc ((λb=>S.heap[b]?)) ι0 H0 (eA z.1.1) (.agg (enc z).toArray):=by
   intro z;obtain⟨cs,av⟩:=b3 z.1.1;have J:(eA z.1.1).cells=cs:=(by rw[av];rfl);rw[av];refine .cc (.agg _ _ ?_ λi c v hc G=>?_)
   .rw[<-J,z.2.2.1];simp[hk z]
   .rw[<-J]at hc;exact (z.2.2.2.2 i c v hc (by simpa using G)).1.mono aq
  refine (hp.2 ((λb=>S.heap[b]?)) (λ_=>none) S S _ s1 ⟨rfl,?_⟩).mono ?_
  .intro i a v ha G
   match i,ha,G with| 0,ha,G=>cases ha;cases G;exact az x| 1,ha,G=>cases ha;cases G;exact az y| n+2,ha,G=>simp at ha
  .rintro e w' ⟨v,σ',rfl,ap,b7,hc⟩;refine⟨?_,?_⟩
   .cases hc with| cc h=>cases h;rfl
   .exact A1h (σ:=σ') (λb o ho=>ap b o ho) b7
 have call:=AnyQ.slices_SortFunc L sz aE zE enc hk h1 a8 hO g #[] b 0 V d w eg hC hH hblk (by rw[B];omega);rw[hf,B]at call;refine call.mono ?_;rintro e w' ⟨rfl,u,n,os,b9,b8,rfl⟩;obtain⟨p1,p2,p3⟩:=b9;have N:u.size=l.length:=by rw[p1,B]
 have M:∀(a:Array (Pc σ eA sz l)),a.size=l.length->(a.extract 0 l.length).toList=a.toList:=λa ha=>by rw[<-ha];simp
 rw[M u N,M d B]at p3;have am:d.toList.map (λp=>p.1.1)=l:=by
  apply ext_getElem
  .simp[B]
  .intro i bh bg;simp[d]
 have ah:(u.toList.map λp=>p.1.1).Perm l:=by have:=p3.map λp:Pc σ eA sz l=>p.1.1;rwa [am]at this
 have hR:(u.toList.map λp=>p.1.1).Pairwise λx y=>cf x y<0\/cf y x<0:=by refine ((ah.trans I.symm).pairwise_iff (λ{x y} h=>h.symm)).2 ?_;exact A.imp λh=>.inl h
 have hS:(u.toList.map λp=>p.1.1).Pairwise λx y=>cf x y<0:=by
  rw[pairwise_iff_getElem]at hR ⊢;intro i j hi hj ar;simp only[length_map,Array.length_toList]at hi hj;rcases hR i j (by simpa using hi) (by simpa using hj) ar with h|h
  .exact h
  .have:=b8 i j (Nat.zero_le _) ar ω;rw[getElem!_pos u i hi,getElem!_pos u j hj]at this;have:=of_decide_eq_false this;simp only[getElem_map,Array.getElem_toList]at h;exact (this h).elim
 have ag:u.toList.map (λp=>p.1.1)=r:=by refine Perm.eq_of_pairwise (le:=λx y=>cf x y<0) (λx y _ _ h1 h2=>(law.irr x (law.trs _ _ _ h1 h2)).elim) hS A (ah.trans I.symm)
 have af:r.length=l.length:=I.length_eq;have bf:(flatK enc sz u).size=l.length*sz:=by rw[size_flatK,N]
 have b4:(Sort.putCells id 0 (flatK enc sz u) D).size=V*sz:=by unfold Sort.putCells;rw[Array.size_mapIdx];exact g4
 have ae:∀(i:Nat) (x:α),r[i]? = some x->i<u.size/\(u[i]!).1.1=x:=by intro i x hx;rw[<-ag,getElem?_map,Option.map_eq_some_iff]at hx;obtain⟨p,hp,rfl⟩:=hx;have q:=(List.getElem?_eq_some_iff.1 hp).1;simp only[Array.length_toList]at q;refine⟨q,?_⟩;rw[getElem!_pos u i q];have:=(List.getElem?_eq_some_iff.1 hp).2;simp only[Array.getElem_toList]at this;rw[this]
 obtain⟨s',le⟩:=s.setRows 0 E sz _ (r.map eA) hh b V hb (by simp[af]) (Sort.putCells id 0 (flatK enc sz u) D) b4 (by
  refine⟨λi j=>(enc u[i]!)[j]!,?_,?_,?_⟩
  .intro i x hx;rw[getElem?_map]at hx;obtain⟨z,hz,rfl⟩:=Option.map_eq_some_iff.1 hx;obtain⟨e1,e2⟩:=ae i z hz;rw[<-e2];exact (u[i]!).2.2.1
  .intro i x j c hx a6;rw[getElem?_map]at hx;obtain⟨z,hz,rfl⟩:=Option.map_eq_some_iff.1 hx;obtain⟨e1,e2⟩:=ae i z hz;rw[<-e2]at a6;have q:=(List.getElem?_eq_some_iff.1 a6).1;rw[(u[i]!).2.2.1,<-(u[i]!).2.2.2.1]at q;have hg:(u[i]!).1.2[j]? = some ((enc u[i]!)[j]!):=(by rw[getElem?_eq_getElem q,getElem!_pos (enc u[i]!) j q]);exact (u[i]!).2.2.2.2 j c _ a6 hg
  .intro i j hi hj;rw[length_map,af]at hi;have q:i*sz+j<l.length*sz:=(by have:=Nat.mul_le_mul_right sz (show i+1<=l.length from hi);rw[Nat.add_mul,Nat.one_mul]at this;omega);have hD:i*sz+j<D.size:=(by rw[g4];exact Nat.lt_of_lt_of_le q (Nat.mul_le_mul_right sz g5));unfold Sort.putCells;rw[Array.getElem?_mapIdx,Array.getElem?_eq_getElem hD];simp only[Option.map_some,Nat.zero_le,true_and,Nat.zero_add,bf,q,if_true,Nat.sub_zero];congr 1;show id ((flatK enc sz u)[i*sz+j]!)=_;rw[get_flatK _ _ _ _ (by rw[N];exact q)];have e1:(i*sz+j) / sz=i:=(by rw[Nat.mul_comm,Nat.mul_add_div U,Nat.div_eq_of_lt hj,Nat.add_zero]);have e2:(i*sz+j) % sz=j:=(by rw[Nat.mul_comm,Nat.mul_add_mod,Nat.mod_eq_of_lt hj]);rw[e1,e2];rfl);have eH:Ba (hp [.rows E sz (l.map eA)]) 0 (.rows E sz (r.map eA))=hp [.rows E sz (r.map eA)]:=by
  funext i
  match i with| 0=>rfl| i+1=>rfl
 rw[eH]at le s';have eW:sortWorldK enc sz w b 0 n u os=Sort.grow (Sort.ahead (w.setRow b (Sort.putCells id 0 (flatK enc sz u) D)) n) os:=by unfold sortWorldK putRowK;rw[A1e id (Sort.ahead w n) b (flatK enc sz u) D E g3];rfl
 rw[eW];exact⟨_,σ,ι,rfl,le,s'.growG n os,.tup _ _ rfl (λi c v h1 _=>by cases h1)⟩
def A1i:Ren:={f:=λx=>match x with|6=>55|15=>121|14=>120|28=>187|29=>188|20=>179|21=>180|22=>181|23=>182|24=>183|25=>184|26=>185|27=>186|46=>244|47=>245|48=>246|49=>247|50=>248|57=>282|n=>n,t:=λx=>match x with|22=>28|24=>52|25=>107|3=>3|39=>185|0=>0|53=>56|55=>55|4=>4|46=>250|45=>249|50=>105|5=>5|9=>9|66=>309|70=>149|76=>347|77=>348|n=>n,g:=λn=>n}
theorem A1j:SlLaysF0.n6 prog A1i:=by
 constructor
 case f6=>exact Exists.intro "slices.SortFunc[[]amortcost/api.Term,amortcost/api.Term]" ⟨κ,κ⟩
 case f14=>exact Exists.intro "slices.pdqsortCmpFunc[amortcost/api.Term]" ⟨κ,κ⟩
 case f20=>exact Exists.intro "slices.insertionSortCmpFunc[amortcost/api.Term]" ⟨κ,κ⟩
 case f21=>exact Exists.intro "slices.heapSortCmpFunc[amortcost/api.Term]" ⟨κ,κ⟩
 case f22=>exact Exists.intro "slices.breakPatternsCmpFunc[amortcost/api.Term]" ⟨κ,κ⟩
 case f23=>exact Exists.intro "slices.choosePivotCmpFunc[amortcost/api.Term]" ⟨κ,κ⟩
 case f24=>exact Exists.intro "slices.reverseRangeCmpFunc[amortcost/api.Term]" ⟨κ,κ⟩
 case f25=>exact Exists.intro "slices.partialInsertionSortCmpFunc[amortcost/api.Term]" ⟨κ,κ⟩
 case f26=>exact Exists.intro "slices.partitionEqualCmpFunc[amortcost/api.Term]" ⟨κ,κ⟩
 case f27=>exact Exists.intro "slices.partitionCmpFunc[amortcost/api.Term]" ⟨κ,κ⟩
 case f46=>exact Exists.intro "slices.siftDownCmpFunc[amortcost/api.Term]" ⟨κ,κ⟩
 case f49=>exact Exists.intro "slices.medianAdjacentCmpFunc[amortcost/api.Term]" ⟨κ,κ⟩
 case f50=>exact Exists.intro "slices.medianCmpFunc[amortcost/api.Term]" ⟨κ,κ⟩
 case f57=>exact Exists.intro "slices.order2CmpFunc[amortcost/api.Term]" ⟨κ,κ⟩
 all_goals first|kernel_rfl | (intro w;kernel_rfl)
theorem A1k (j:∀args w,(callFunc g args).run prog w = .ok (.enter g args) w) (b:∀x y n,cmp x y=some n->Ay prog g [eA x,eA y] (O .i64 n)) (c:∀x,∃cs,eA x = .agg cs) {f:List α} (h:P2 cmp f=some r) (i:f≠[]) : Bv prog 55 [.arr 0 f.length 0 f.length,.fn g []] [.rows 52 5 (f.map eA)] (.tup []) [.rows 52 5 (r.map eA)] := Ap9 A1j rfl ⟨_,func55,κ,κ⟩ (by intro w;kernel_rfl) (by intro w;kernel_rfl) j b c h i
def A1l:Ren:={f:=λx=>match x with|6=>263|15=>121|14=>292|28=>187|29=>188|20=>315|21=>316|22=>317|23=>318|24=>319|25=>320|26=>321|27=>322|46=>326|47=>245|48=>246|49=>327|50=>328|57=>329|n=>n,t:=λx=>match x with|22=>123|24=>127|25=>332|3=>3|39=>185|0=>0|53=>56|55=>55|4=>4|46=>250|45=>249|50=>105|5=>5|9=>9|66=>309|70=>149|76=>347|77=>348|n=>n,g:=λn=>n}
theorem A1m:SlLaysF0.n6 prog A1l:=by
 constructor
 case f6=>exact Exists.intro "slices.SortFunc[[]amortcost/api.Weighted,amortcost/api.Weighted]" ⟨κ,κ⟩
 case f14=>exact Exists.intro "slices.pdqsortCmpFunc[amortcost/api.Weighted]" ⟨κ,κ⟩
 case f20=>exact Exists.intro "slices.insertionSortCmpFunc[amortcost/api.Weighted]" ⟨κ,κ⟩
 case f21=>exact Exists.intro "slices.heapSortCmpFunc[amortcost/api.Weighted]" ⟨κ,κ⟩
 case f22=>exact Exists.intro "slices.breakPatternsCmpFunc[amortcost/api.Weighted]" ⟨κ,κ⟩
 case f23=>exact Exists.intro "slices.choosePivotCmpFunc[amortcost/api.Weighted]" ⟨κ,κ⟩
 case f24=>exact Exists.intro "slices.reverseRangeCmpFunc[amortcost/api.Weighted]" ⟨κ,κ⟩
 case f25=>exact Exists.intro "slices.partialInsertionSortCmpFunc[amortcost/api.Weighted]" ⟨κ,κ⟩
 case f26=>exact Exists.intro "slices.partitionEqualCmpFunc[amortcost/api.Weighted]" ⟨κ,κ⟩
 case f27=>exact Exists.intro "slices.partitionCmpFunc[amortcost/api.Weighted]" ⟨κ,κ⟩
 case f46=>exact Exists.intro "slices.siftDownCmpFunc[amortcost/api.Weighted]" ⟨κ,κ⟩
 case f49=>exact Exists.intro "slices.medianAdjacentCmpFunc[amortcost/api.Weighted]" ⟨κ,κ⟩
 case f50=>exact Exists.intro "slices.medianCmpFunc[amortcost/api.Weighted]" ⟨κ,κ⟩
 case f57=>exact Exists.intro "slices.order2CmpFunc[amortcost/api.Weighted]" ⟨κ,κ⟩
 all_goals first|kernel_rfl | (intro w;kernel_rfl)
theorem A1n (j:∀args w,(callFunc g args).run prog w = .ok (.enter g args) w) (b:∀x y n,cmp x y=some n->Ay prog g [eA x,eA y] (O .i64 n)) (c:∀x,∃cs,eA x = .agg cs) {f:List α} (h:P2 cmp f=some r) (i:f≠[]) : Bv prog 263 [.arr 0 f.length 0 f.length,.fn g []] [.rows 127 5 (f.map eA)] (.tup []) [.rows 127 5 (r.map eA)] := Ap9 A1m rfl ⟨_,func263,κ,κ⟩ (by intro w;kernel_rfl) (by intro w;kernel_rfl) j b c h i
end Go.Ab
namespace Go.Ab
open Go Go.Proofs Go.Shelf Go.Proofs.Tryz
set_option maxRecDepth 100000
set_option linter.unusedVariables false
variable {n:Int} {α:Type} {r:List α} {eA:α->AV}
theorem Acw {σ:A5} {ι:Cd} {H:Hp} {u v:Value} (h:Conc σ ι H (.val u) v):v=u:=by cases h with| cc h=>cases h;rfl
theorem Aev {ρ:Ren} {E:TypeId} {sz f:Nat} (L:Lays8.n4 prog ρ) (hf:ρ.f 4=f) (g:Acz prog f) (l:TypeInfo) (z:Value) (G:prog.info? (ρ.t 25)=some l) (D:l.zero=some z) (V:ρ.t 25=E) (S:l.size=sz) (B:z.cells.size=sz) (q:0<sz) (I:l.bytes<=1000) (h:M6 n=some r):Bv prog f [.val (.slice none 0 0),O .i64 n] [] (.arr 0 r.length 0 r.length) [.rows E sz (r.map eA)]:=by
 have U:r = []/\0<=n/\n<=1000000:=by
  unfold M6 at h;by_cases h1:0<=n
  .by_cases h2:n<=1000000
   .rw[decide_eq_true h1,decide_eq_true h2]at h;have h:some ([]:List α)=some r:=h;cases h;exact⟨rfl,h1,h2⟩
   .rw[decide_eq_false h2,Bool.and_false]at h;cases h
  .rw[decide_eq_false h1,Bool.false_and]at h;cases h
 obtain⟨rfl,n0,Z⟩:=U;obtain⟨m,rfl⟩:∃m:Nat,n=m:=⟨n.toNat,ω⟩;refine⟨g,λσ F W w ι vs s y=>?_⟩;obtain⟨v,u,rfl,R,hu⟩:=Aj5 y;obtain rfl:=Acw R;obtain rfl:=Acw hu;have M:hp [] 0 = .none:=rfl;have N:Ba (hp []) 0 (.rows E sz [])=hp [.rows E sz []]:=by
  funext i
  match i with| 0=>rfl| i+1=>rfl
 by_cases h0:m=0
 .subst h0;have call:=Any8.slices_Grow_room L none 0 0 0 w (Nat.le_refl _) δ δ δ;rw[hf]at call;refine call.mono ?_;rintro e w' ⟨rfl,rfl⟩;obtain⟨s',le⟩:=s.newNil 0 M E sz q;rw[N]at s' le;refine⟨_,σ,_,rfl,le,s',.arr 0 0 0 0 _ (by intro e;cases e) (λY A xs e=>?_) rfl⟩;cases e;refine⟨Nat.le_refl _,λ_=>?_⟩;unfold Hs;rw[Co];exact⟨rfl,rfl,rfl⟩
 .have hb:(0+m)*l.bytes<=140737488355328:=(by have:=Nat.mul_le_mul (show 0+m<=1000000 by omega) I;omega);have call:=Any8.slices_Grow_grow L l z G D ω none 0 0 m [] w (Nat.le_refl _) ω hb ω ψ (λ_=>rfl) (λa h=>by cases h);rw[hf,V]at call;refine call.mono ?_;rintro e w' ⟨rfl,rfl⟩;have hge:=Aco w (0+m) 0 E;generalize grownCap w (0+m) 0 E=cap at hge;have b:∀k,(Builtin.zeroCells z.cells k).size=k*sz:=(by intro k;simp[Builtin.zeroCells,B]);generalize X:(([]:List Value).toArray++Builtin.zeroCells z.cells (0+m-0)++Builtin.zeroCells z.cells (cap-(0+m)))=C;have J:C.size=cap*sz:=(by rw[<-X,Array.size_append,Array.size_append,b,b];simp only[size_toArray,length_nil,Nat.zero_add,Nat.sub_zero,<-Nat.add_mul];congr 1;omega);obtain⟨s',le⟩:=(s.drew (w.drawn+1)).newRows 0 E sz [] cap C (.inl M) q ψ ψ J ⟨λ_ _=>.bool false,(by intro i x h;simp at h),(by intro i x j c h;simp at h),(by intro i j h;simp at h)⟩;rw[N]at s' le;refine⟨_,σ,_,rfl,le,s',.arr 0 0 0 0 _ (by intro e;cases e) (λY A xs e=>?_) rfl⟩;cases e;refine⟨Nat.le_refl _,λ_=>?_⟩;unfold Hs;rw[Co];exact⟨Nat.zero_le _,ψ⟩
def A1o:Ren:={f:=λx=>match x with|4=>143|n=>n,t:=λx=>match x with|22=>47|25=>114|3=>3|4=>4|9=>9|20=>20|0=>0|n=>n,g:=λn=>n}
theorem A1p:Lays8.n4 prog A1o:=by
 constructor
 case f4=>exact Exists.intro "slices.Grow[[]amortcost/api.Factor,amortcost/api.Factor]" ⟨κ,κ⟩
 all_goals first|kernel_rfl | (intro w;kernel_rfl)
theorem A1q (h:M6 n=some r):Bv prog 143 [.val (.slice none 0 0),O .i64 n] [] (.arr 0 r.length 0 r.length) [.rows 114 3 (r.map eA)] := Aev A1p rfl ⟨_,func143,κ,κ⟩ Tryz.t114 (Tryz.t114.zero.getD .nilFunc) κ κ rfl κ κ δ (of_decide_eq_true κ) h
def A1r:Ren:={f:=λx=>match x with|4=>144|n=>n,t:=λx=>match x with|22=>48|25=>117|3=>3|4=>4|9=>9|20=>20|0=>0|n=>n,g:=λn=>n}
theorem A1s:Lays8.n4 prog A1r:=by
 constructor
 case f4=>exact Exists.intro "slices.Grow[[]amortcost/api.Atom,amortcost/api.Atom]" ⟨κ,κ⟩
 all_goals first|kernel_rfl | (intro w;kernel_rfl)
theorem A1t (h:M6 n=some r):Bv prog 144 [.val (.slice none 0 0),O .i64 n] [] (.arr 0 r.length 0 r.length) [.rows 117 3 (r.map eA)] := Aev A1s rfl ⟨_,func144,κ,κ⟩ Tryz.t117 (Tryz.t117.zero.getD .nilFunc) κ κ rfl κ κ δ (of_decide_eq_true κ) h
def A1u:Ren:={f:=λx=>match x with|4=>293|n=>n,t:=λx=>match x with|22=>123|25=>127|3=>3|4=>4|9=>9|20=>20|0=>0|n=>n,g:=λn=>n}
theorem A1v:Lays8.n4 prog A1u:=by
 constructor
 case f4=>exact Exists.intro "slices.Grow[[]amortcost/api.Weighted,amortcost/api.Weighted]" ⟨κ,κ⟩
 all_goals first|kernel_rfl | (intro w;kernel_rfl)
theorem A1w (h:M6 n=some r):Bv prog 293 [.val (.slice none 0 0),O .i64 n] [] (.arr 0 r.length 0 r.length) [.rows 127 5 (r.map eA)] := Aev A1v rfl ⟨_,func293,κ,κ⟩ Tryz.t127 (Tryz.t127.zero.getD .nilFunc) κ κ rfl κ κ δ (of_decide_eq_true κ) h
def A1x:Ren:={f:=λx=>match x with|4=>314|n=>n,t:=λx=>match x with|22=>110|25=>112|3=>3|4=>4|9=>9|20=>20|0=>0|n=>n,g:=λn=>n}
theorem A1y:Lays8.n4 prog A1x:=by
 constructor
 case f4=>exact Exists.intro "slices.Grow[[]amortcost/api.Index,amortcost/api.Index]" ⟨κ,κ⟩
 all_goals first|kernel_rfl | (intro w;kernel_rfl)
theorem A1z (h:M6 n=some r):Bv prog 314 [.val (.slice none 0 0),O .i64 n] [] (.arr 0 r.length 0 r.length) [.rows 112 2 (r.map eA)] := Aev A1y rfl ⟨_,func314,κ,κ⟩ Tryz.t112 (Tryz.t112.zero.getD .nilFunc) κ κ rfl κ κ δ (of_decide_eq_true κ) h
end Go.Ab
