/- Contracts of the library. -/
import Derived.Test.YtgfjdimemmhmeaaGreatDoorMuTy
import Derived.Test.YtgfjdimemmhmeaaGreatDoorMuHandB
import Derived.Shelf.Strconv.Itoa4
import Derived.KernelRfl
import Derived.Shelf.Sort.Plain
import Derived.Shelf.SlSortCmp.WholeK
import Derived.Shelf.Spec.SlicesGrow
open List
namespace Go.Ab
open Go Go.Proofs Go.Shelf Go.Proofs.Tryz
set_option maxRecDepth 100000
variable{p x:AV}{vs:Array Value}{F σ:Bb}{r:Β}{ι:Ck}{H:Hp}{a0:Int}{l:Ae}{W w:World}
def Asx:Ren:={f:=λx=>match x with|171=>118|243=>196|246=>272|283=>304|284=>305|285=>306|286=>307|129=>211|317=>341|318=>342|319=>343|320=>344|337=>350|338=>351|173=>198|n=>n,t:=λx=>match x with|3=>3|9=>9|2=>2|4=>4|171=>364|0=>0|53=>142|37=>159|5=>5|173=>366|212=>391|51=>143|20=>20|213=>392|46=>195|232=>397|233=>398|n=>n,g:=λx=>match x with|17=>0|18=>1|19=>2|n=>n}
theorem Asy:LaysM.n171 prog Asx:=by constructor;constructor;all_goals first|kernel_rfl|(intro w;kernel_rfl)
theorem St.grown(s:St σ ι0 H0 F W w)(k:Nat)(os:Array Obj):St σ ι0 H0 F W (Sort.grow (w.drewN k) os):=by(have hk:∀(b:Nat)(o:Obj),w.heap[b]?=some o->(Sort.grow (w.drewN k) os).heap[b]?=some o:=by intro b o h;have c:=(Array.getElem?_eq_some_iff.1 h).1;show(w.heap++os)[b]?=_;rw[Array.getElem?_append_left c];exact h);exact⟨λb o h=>hk b o (s.sto b o h),λb o h=>⟨hk b o (s.fra b o h).1,(s.fra b o h).2⟩,λ_=>rfl,(λ_ _ _ f=>by cases f),s.os,s.tape,s.output,s.glo,Nat.le_trans s.drw (Nat.le_add_right _ _)⟩
theorem Asz(s:St σ ι H F W w):Lib.TabIs prog w "internal/strconv.uint64pow10" .u64 Lib.pow10Tab:=by obtain⟨E,d,e⟩:=s.glo;have h:=s.sto _ _ e;have g:prog.globalNamed "internal/strconv.uint64pow10" = some 0:=Asy.m17;unfold Lib.TabIs World.var?;rw[g];simp only[Option.bind_some,h]
theorem Zl(h:Mv σ ι H [x] vs):∃v,vs=#[v]/\Conc σ ι H x v:=by obtain⟨d,j⟩:=h;have d:vs.size=1:=d;refine⟨vs[0],?_,j 0 x _ rfl (by simp[d])⟩;apply Array.ext;simp[d];intro i hi b;have:i=0:=ω;subst this;rfl
theorem A4p(h:Rg a0=some r):A5 prog 118 [eo a0] (Fg r):=by unfold Rg at h;split at h;rename_i d;cases h;refine⟨⟨_,func118,κ,κ⟩,λσ F W w vs s b=>?_⟩;obtain⟨v,rfl,c⟩:=Zl b;have c:=c.val_inv;subst c;have:=Any.strconv_Itoa Asy a0 d.1 d.2 w (Asz s);refine this.mono ?_;rintro e j ⟨rfl,k,os,rfl⟩;exact⟨_,σ,rfl,Bb.le_refl σ,s.grown k os,.of_val _⟩;cases h
theorem A4q:LaysM.n173 prog Asx:=by constructor;constructor;all_goals first|kernel_rfl|(intro w;kernel_rfl)
theorem Amv{y:AV}(h:Mv σ ι H [x,y] vs):∃v u,vs=#[v,u]/\Conc σ ι H x v/\Conc σ ι H y u:=by obtain⟨d,j⟩:=h;have d:vs.size=2:=d;refine⟨vs[0],vs[1],?_,j 0 x _ rfl (by simp[d]),j 1 y _ rfl (by simp[d])⟩;apply Array.ext;simp[d];intro i hi b;rcases(ω:i=0\/i=1)with h|h;subst h;rfl;subst h;rfl
theorem A4r{a1:Int}(h:Af8 a0 a1=some r):A5 prog 198 [eo a0,eo a1] (Fg r):=by unfold Af8 at h;cases d:a1==10 with|false=>rw[d]at h;cases h|true=>rw[d]at h;have d:=eq_of_beq d;subst d;have h:Rg a0=some r:=h;unfold Rg at h;split at h;rename_i q;cases h;refine⟨⟨_,func198,κ,κ⟩,λσ F W w vs s b=>?_⟩;obtain⟨v,u,rfl,c,j⟩:=Amv b;have c:=c.val_inv;have j:=j.val_inv;subst c;subst j;have:=Any.strconv_FormatInt_10 A4q a0 q.1 q.2 w (Asz s);refine this.mono ?_;rintro e y ⟨rfl,k,os,rfl⟩;exact⟨_,σ,rfl,Bb.le_refl σ,s.grown k os,.of_val _⟩;cases h
theorem Ada(o:Bx)(os:Λ Bx):hp (o::os) 0=o:=rfl
theorem A4s(x:AV)(rest:Λ Bx):B6 prog 173 [.loc 0 0] (.cells 161 [.loc 0 0,x]::rest) (.tup []) (.cells 161 [.loc 0 0,x]::rest):=by refine⟨⟨_,func173,κ,κ⟩,λσ F W w ι vs s f=>?_⟩;obtain⟨v,rfl,k⟩:=Zl f;obtain⟨b,d,k⟩:=k.loc_inv;subst k;have l:=s.obj 0;unfold Dk at l;rw[Ada]at l;obtain⟨A,C,y,_,_,B,u,z⟩:=l;rw[d]at y;cases y;have u:C.size=2:=u;(have g:C[0]?=some C[0]:=by simp[u]);have q:=z 0 (.loc 0 0) C[0] rfl g;obtain⟨I,h,j⟩:=q.loc_inv;rw[d]at h;cases h;(have cell:w.cell? ⟨b,0,none⟩=some (.pointer (some ⟨b,0,none⟩)):=by rw[L9 B,g,j]);refine(Tryz.check_used b w cell).mono ?_;rintro e L ⟨rfl,rfl⟩;exact⟨_,σ,ι,rfl,Le.refl _ _ _,s,.tup _ _ rfl (λi c v D _=>by cases D)⟩
theorem A4t(x:AV)(rest:Λ Bx):B6 prog 173 [.loc 0 0] (.cells 161 [.val (.pointer none),x]::rest) (.tup []) (.cells 161 [.loc 0 0,x]::rest):=by refine⟨⟨_,func173,κ,κ⟩,λσ F W w ι vs s j=>?_⟩;obtain⟨v,rfl,q⟩:=Zl j;obtain⟨b,M,q⟩:=q.loc_inv;subst q;have u:=s.obj 0;unfold Dk at u;rw[Ada]at u;obtain⟨D,C,A,_,_,I,g,z⟩:=u;rw[M]at A;cases A;have g:C.size=2:=g;(have k:C[0]?=some C[0]:=by simp[g]);have l:=(z 0 (.val (.pointer none)) C[0] rfl k).val_inv;(have cell:w.cell? ⟨b,0,none⟩=some (.pointer none):=by rw[L9 I,k,l]);refine(Tryz.check_fresh b w cell (by simp[World.shape?,I,g]) (by simp[World.frozen?,I])).mono ?_;rintro e R ⟨rfl,rfl⟩;obtain⟨N,le⟩:=s.setBox 0 161 [.val (.pointer none),x] [.loc 0 0,x] rfl b M #[.pointer (some ⟨b,0,none⟩),C[1]] rfl (by intro i c v d L;match i with|0=>simp at d L;subst d;subst L;exact .loc 0 0 b M|1=>simp at d L;subst d;subst L;exact z 1 x _ rfl (by simp[g])|i+2=>simp at d);(have B:Be (hp (.cells 161 [.val (.pointer none),x]::rest)) 0 (.cells 161 [.loc 0 0,x])=hp (.cells 161 [.loc 0 0,x]::rest):=by funext i;cases i with|zero=>rfl|succ i=>rfl);(have eW:w.setCell ⟨b,0,none⟩ (.pointer (some ⟨b,0,none⟩))=w.setRow b #[.pointer (some ⟨b,0,none⟩),C[1]]:=by(have h:C.setIfInBounds 0 (.pointer (some ⟨b,0,none⟩))=#[.pointer (some ⟨b,0,none⟩),C[1]]:=by apply Array.ext;simp[g];intro i hi y;match i with|0=>simp|1=>rw[Array.getElem_setIfInBounds_ne _ δ];rfl|i+2=>simp at y;omega);(have f:(w.setCell ⟨b,0,none⟩ (.pointer (some ⟨b,0,none⟩))).heap=(w.setRow b #[.pointer (some ⟨b,0,none⟩),C[1]]).heap:=by apply Array.ext_getElem?;intro i;simp only[World.setCell,World.setRow,Array.getElem?_modify];split;rename_i e;subst e;rw[I];simp[h];rfl);unfold World.setCell World.setRow at f⊢;simp only at f;rw[f]);rw[B]at N le;rw[eW];exact⟨_,σ,ι,rfl,le,N,.tup _ _ rfl (λi c v d _=>by cases d)⟩
theorem A4u(h:∀x∈l,0<=x/\x<256){j:Nat}{x:UInt8}(d:(F8 l)[j]?=some x):l[j]?=some (x.toNat:Int):=by simp only[F8,getElem?_map,Option.map_eq_some_iff]at d;obtain⟨y,k,rfl⟩:=d;have b:=h y (mem_of_getElem? k);rw[k];congr 1;have:y.toNat<256:=ω;simp only[UInt8.toNat_ofNat'];omega
theorem St.kill(s:St σ ι H F W w)(h:Nat):St σ ι (Be H h .dead) F W w/\Le σ ι H σ ι (Be H h .dead):=by(have le:Le σ ι H σ ι (Be H h .dead):=by have:=Le.upd (ι:=ι) (H:=H) (Bb.le_refl σ) h (ι h) .dead ⟨λ_ e=>e,(λ_ e=>by cases e),(λ_ k j i e=>by cases e)⟩;rwa [J5]at this);obtain⟨f1,f2⟩:=s.fresh;refine⟨s.touch h w.heap.size (λ_ _=>rfl) (λx e=>Dm _ _ e) le (λ_ _=>rfl) (λ_ _=>rfl) (λo g=>by rw[f1]at g;cases g) ?_ f2 ?_ ?_ rfl rfl rfl,le⟩;intro x _ c f;have:=(s.block c f).1;omega;intro b c;rw[Cz]at c;cases c;unfold Dk;rw[Cz];trivial
theorem St.fbox(s0:St σ ι H F W w){T:TypeId}{s:Β}{b:Nat}{C:Array Value}(f:H 0=.cells T [p,x])(hb:ι 0=.box b)(h3:w.heap[b]?=some (.cells C T (0,0)))(hc:∀v,C[1]?=some v->CC σ (.fb s) v):St σ ι (Be H 0 (.cells T [p,.fb s])) F W w/\Le σ ι H σ ι (Be H 0 (.cells T [p,.fb s])):=by have g:=s0.obj 0;unfold Dk at g;rw[f]at g;obtain⟨u,z,k,d,A,B,D,I⟩:=g;rw[hb]at k;cases k;rw[h3]at B;cases B;(have le:Le σ ι H σ ι (Be H 0 (.cells T [p,.fb s])):=by have:=Le.upd (ι:=ι) (H:=H) (Bb.le_refl σ) 0 (ι 0) (.cells T [p,.fb s]) (by rw[f];exact⟨λ_ e=>e,(λ_ e=>by cases e),(λ_ _ _ _ e=>by cases e)⟩);rwa [J5]at this);refine⟨s0.touch 0 b (λ_ _=>rfl) (λx e=>Dm _ _ e) le (λx e=>rfl) (λ_ _=>rfl) (λo e=>by rw[d]at e;cases e) ?_ A ?_ ?_ rfl rfl rfl,le⟩;intro x e l h;exact e (s0.inj x 0 b l (by rw[f];rfl) h (by rw[hb];rfl));intro q _ j;exact .inr ⟨by rw[f];rfl,j⟩;unfold Dk;rw[Cz];refine⟨b,C,hb,d,A,h3,by simpa using D,λi c v x y=>?_⟩;match i with|0=>exact(I 0 c v x y).mono le|1=>cases x;exact .cc (hc v y)|i+2=>cases x
theorem A4v:B6 prog 101 [.loc 0 0] [.cells 161 [p,.arr 1 0 0 0],.rows 5 1 []] (Fg .empty) [.cells 161 [p,.fb .empty],.dead]:=by refine⟨⟨_,func101,κ,κ⟩,λσ F W w ι vs s y=>?_⟩;obtain⟨v,rfl,j⟩:=Zl y;obtain⟨b,hb,j⟩:=j.loc_inv;subst j;have L:=s.obj 0;unfold Dk at L;rw[Ada]at L;obtain⟨b',C,X,_,_,h3,A,h5⟩:=L;rw[hb]at X;cases X;have A:C.size=2:=A;(have Z:C=#[C[0],C[1]]:=by apply Array.ext;simp[A];intro i hi M;match i with|0=>rfl|1=>rfl|i+2=>simp at M;omega);have N:=h5 1 (.arr 1 0 0 0) C[1] rfl (by simp[A]);have x:hp [Bx.cells 161 [p,.arr 1 0 0 0],.rows 5 1 []] 1=.rows 5 1 []:=rfl;have c:=N.arr_inv x ψ;have a1:=s.obj 1;unfold Dk at a1;rw[x]at a1;obtain⟨_,U,a1⟩:=a1;(have eH:Be (Be (hp [Bx.cells 161 [p,.arr 1 0 0 0],.rows 5 1 []]) 1 .dead) 0 (.cells 161 [p,.fb .empty])=hp [Bx.cells 161 [p,.fb .empty],.dead]:=by funext i;match i with|0=>rfl|1=>rfl|i+2=>rfl);(have go:∀(a q:Ο Addr)(d:Nat)(z:Bb)(k:World),C[1]=.slice a 0 d->k.heap[b]?=w.heap[b]?->(Builtin.unsafeSliceData_ #[159] 241 #[.slice a 0 d]).run prog w.drew=.ok (.pointer q) k->Le σ ι (hp [Bx.cells 161 [p,.arr 1 0 0 0],.rows 5 1 []]) z ι (hp [Bx.cells 161 [p,.arr 1 0 0 0],.rows 5 1 []])->St z ι (hp [Bx.cells 161 [p,.arr 1 0 0 0],.rows 5 1 []]) F W k->Calls prog 101 #[.pointer (some ⟨b,0,none⟩)] w λe w'=>∃v B E,e=.returned v/\Le σ ι (hp [Bx.cells 161 [p,.arr 1 0 0 0],.rows 5 1 []]) B E (hp [Bx.cells 161 [p,.fb .empty],.dead])/\St B E (hp [Bx.cells 161 [p,.fb .empty],.dead]) F W w'/\Conc B E (hp [Bx.cells 161 [p,.fb .empty],.dead]) (Fg .empty) v:=by intro a q d z k f u R le G;have h:w.heap[b]?=some (.cells #[C[0],.slice a 0 d] 161 (0,0)):=(by rw[h3];congr 1;rw[<-f,<-Z]);refine(Tryz.builder_str0 b d C[0] a q w k h (u.trans h) R).mono ?_;rintro e w' ⟨rfl,rfl⟩;obtain⟨Y,I⟩:=G.kill 1;obtain⟨S,l⟩:=Y.fbox (b:=b) (C:=#[C[0],.slice a 0 d]) (s:=.empty) (by rfl) hb ((u.trans h)) (λv j=>by simp at j;subst j;exact .fbn _ _ _ rfl);rw[eH]at S l;exact⟨_,z,ι,rfl,(le.trans I).trans l,S,.of_val _⟩);(rcases a1 with⟨hi,_⟩|⟨g,a2,D,hg,g1,g2,g3,g4,g5,g6⟩);unfold Ia at c;rw[hi]at c;exact go none none 0 σ w.drew c.1 rfl rfl (Le.refl _ _ _) (s.drew _);unfold Ia at c;rw[hg]at c;simp only[Nat.zero_mul,Nat.zero_add,Nat.sub_zero]at c;obtain⟨_,f⟩:=c;by_cases ht:a2=0;subst ht;obtain⟨G,J⟩:=(s.drew (w.drawn+1)).newFrozen (.view ⟨g,0,none⟩ 5);have V:=(Array.getElem?_eq_some_iff.1 h3).1;refine go _ _ 0 _ (w.drew.alloc (.view ⟨g,0,none⟩ 5)) f ?_ (Lib.run_unsafeSliceData_zero _ _ _ 5 underlying241 _ _ (5,D.size) (by have:w.drew.heap[g]?=some (.cells D 5 (0,0)):=g3;simp[World.shape?,this])) J G;show(w.heap.push _)[b]?=_;rw[Array.getElem?_push,if_neg ω];exact go _ _ a2 σ w.drew f rfl (Lib.run_unsafeSliceData_row _ _ _ _ _ _ ht) (Le.refl _ _ _) (s.drew _)
theorem As0(h:Aa4 l=some r):B6 prog 101 [.loc 0 0] [.cells 161 [p,.arr 1 l.length 0 l.length],.rows 5 1 (map jo l)] (Fg r) [.cells 161 [p,.fb r],.dead]:=by unfold Aa4 at h;split at h;rename_i a8;cases h;by_cases q:l=[];subst q;exact A4v;refine⟨⟨_,func101,κ,κ⟩,λσ F W w ι vs s R=>?_⟩;obtain⟨v,rfl,y⟩:=Zl R;obtain⟨b,hb,y⟩:=y.loc_inv;subst y;have A:=s.obj 0;unfold Dk at A;rw[Ada]at A;obtain⟨b',C,e1,_,_,h3,X,h5⟩:=A;rw[hb]at e1;cases e1;have X:C.size=2:=X;(have hC:C=#[C[0],C[1]]:=by apply Array.ext;simp[X];intro i hi a6;match i with|0=>rfl|1=>rfl|i+2=>simp at a6;omega);have a7:=h5 1 (.arr 1 l.length 0 l.length) C[1] rfl (by simp[X]);have M:hp [Bx.cells 161 [p,.arr 1 l.length 0 l.length],.rows 5 1 (map jo l)] 1=.rows 5 1 (map jo l):=rfl;have u:=a7.arr_inv M ψ;have d:=s.obj 1;unfold Dk at d;rw[M]at d;obtain⟨_,L,d⟩:=d;rw[length_map]at L;(rcases d with⟨_,I⟩|⟨g,a2,D,hg,g1,g2,g3,g4,g5,g6⟩);exact(q (by simpa using I)).elim;rw[length_map]at g5;unfold Ia at u;rw[hg]at u;simp only[Nat.zero_mul,Nat.zero_add,Nat.sub_zero]at u;obtain⟨ht,G⟩:=u;have c:(F8 l).length=l.length:=(by simp[F8]);have f:∀(j:Nat)(x:UInt8),(F8 l)[j]?=some x->D[j]?=some (Value.int .u8 x.toNat):=(by intro j x hx;have hj:=A4u a8 hx;obtain⟨gg,q1,q2,q3⟩:=g6;have E:(map jo l)[j]?=some (jo x.toNat):=(by rw[getElem?_map,hj];rfl);have Z:j<(map jo l).length:=(List.getElem?_eq_some_iff.1 E).1;have q4:=q3 j 0 Z ω;have q5:=(q2 j _ 0 _ E rfl).1;have:gg j 0=Value.int .u8 x.toNat:=(by generalize gg j 0=z at q5;cases q5;rfl);rw[this]at q4;simpa using q4);have S:w.heap[b]?=some (.cells #[C[0],.slice (some ⟨g,0,none⟩) (F8 l).length a2] 161 (0,0)):=(by rw[h3];congr 1;rw[c];have:C[1]=.slice (some ⟨g,0,none⟩) l.length a2:=G;rw[<-this,<-hC]);have U:l.length<=D.size:=(by rw[g4];omega);have call:=Tryz.builder_str b g a2 C[0] D (F8 l) w (by intro e;apply q;rw[<-length_eq_zero_iff,<-c,e];rfl) S g3 (by rw[c];exact g5) (by rw[c];exact U) (by rw[c];omega) f;refine call.mono ?_;rintro e w' ⟨rfl,rfl⟩;have J:(F8 l).length≠0:=(by rw[c];simpa using q);have a1:σ.le (Be σ g (some (.cells D 5 (0,(F8 l).length)))):=(by intro b' o' a3;rw[Dm _ _ (by intro e;subst e;rw[g1]at a3;cases a3)];exact a3);have Y:(w.drew.freeze ⟨g,0,none⟩ (F8 l).length).heap[g]?=some (.cells D 5 (0,(F8 l).length)):=(by unfold World.freeze;rw[if_neg J];simp only[Array.getElem?_modify,if_true];have:w.drew.heap[g]?=some (.cells D 5 (0,0)):=g3;rw[this];simp);(have N:∀b,b≠g->(w.drew.freeze ⟨g,0,none⟩ (F8 l).length).heap[b]?=w.heap[b]?:=by intro b hb;unfold World.freeze;split;rfl;simp only[Array.getElem?_modify];rw[if_neg (Ne.symm hb)];rfl);have le:Le σ ι (hp [Bx.cells 161 [p,.arr 1 l.length 0 l.length],.rows 5 1 (map jo l)]) (Be σ g (some (.cells D 5 (0,(F8 l).length)))) ι (Be (hp [Bx.cells 161 [p,.arr 1 l.length 0 l.length],.rows 5 1 (map jo l)]) 1 .dead):=(by have:=Le.upd (ι:=ι) (H:=hp [Bx.cells 161 [p,.arr 1 l.length 0 l.length],.rows 5 1 (map jo l)]) a1 1 (ι 1) .dead ⟨λ_ e=>e,(λ_ e=>by cases e),(λ_ E1 ad ac e=>by cases e)⟩;rwa [J5]at this);(have eH:Be (Be (hp [Bx.cells 161 [p,.arr 1 l.length 0 l.length],.rows 5 1 (map jo l)]) 1 .dead) 0 (.cells 161 [p,.fb ⟨(F8 l).toArray⟩])=hp [Bx.cells 161 [p,.fb ⟨(F8 l).toArray⟩],.dead]:=by funext i;match i with|0=>rfl|1=>rfl|i+2=>rfl);have ab:b≠g:=(by intro e;have:=s.inj 0 1 g rfl rfl (by rw[hb,e];rfl) (by rw[hg];rfl);cases this);(have s2:St (Be σ g (some (.cells D 5 (0,(F8 l).length)))) ι (Be (hp [Bx.cells 161 [p,.arr 1 l.length 0 l.length],.rows 5 1 (map jo l)]) 1 .dead) F W (w.drew.freeze ⟨g,0,none⟩ (F8 l).length):=by refine s.touch (hdrw:=by unfold World.freeze;split<;>exact Nat.le_succ _) 1 g (λ_ _=>rfl) (λx e=>Dm _ _ e) le N (λx e=>Dm _ _ e) (λo A=>by rw[Cz]at A;cases A;exact Y) ?_ g2 ?_ ?_ ?_ ?_ ?_;intro x hx V aa;exact hx (s.inj x 1 g V rfl aa (by rw[hg];rfl));intro b0 V;rw[Cz]at V;cases V;unfold Dk;rw[Cz];trivial;unfold World.freeze;split<;>rfl;unfold World.freeze;split<;>rfl;unfold World.freeze;split<;>rfl);obtain⟨s3,B⟩:=s2.fbox (b:=b) (C:=#[C[0],.slice (some ⟨g,0,none⟩) (F8 l).length a2]) (s:=⟨(F8 l).toArray⟩) (by rfl) hb ((N b ab).trans S) (λv y=>by simp only[getElem?_toArray,getElem?_cons_succ,getElem?_cons_zero,Option.some.injEq]at y;subst y;have k:(ByteArray.mk (F8 l).toArray).size=(F8 l).length:=(by simp[ByteArray.size]);rw[<-k];refine .fb _ g a2 D (by rw[Cz,k]) (by rw[k];exact J) (by rw[k,c];omega) (by rw[k,c];exact U) (by rw[k,c];omega) λj x hx=>f j x (by simpa using hx));rw[eH]at s3 B;exact⟨_,_,ι,rfl,le.trans B,s3,.of_val _⟩;cases h
theorem As1{f:Β}(h:(bif Nat.beq f.size 0 then none else some f)=some r):B6 prog 101 [.loc 0 0] [.cells 161 [p,.fb f]] (Fg r) [.cells 161 [p,.fb f]]:=by(have q:r.size≠0/\f=r:=by cases d:Nat.beq f.size 0 with|true=>rw[d]at h;cases h|false=>rw[d]at h;cases h;exact⟨(λe=>by rw[e]at d;exact Bool.noConfusion d),rfl⟩);clear h;obtain⟨q,E⟩:=q;subst E;refine⟨⟨_,func101,κ,κ⟩,λσ F W w ι vs s y=>?_⟩;obtain⟨v,rfl,B⟩:=Zl y;obtain⟨b,d,B⟩:=B.loc_inv;subst B;have G:=s.obj 0;unfold Dk at G;rw[Ada]at G;obtain⟨Y,C,N,_,_,h3,A,U⟩:=G;rw[d]at N;cases N;have A:C.size=2:=A;(have M:C=#[C[0],C[1]]:=by apply Array.ext;simp[A];intro i hi I;match i with|0=>rfl|1=>rfl|i+2=>simp at I;omega);have l:=U 1 (.fb f) C[1] rfl (by simp[A]);generalize C[1]=u at M l;generalize C[0]=R at M;subst M;cases l with|cc l=>cases l with|fbn _ a a1 h0=>exact(q h0).elim|fb _ g a1 D S h0 z L X J=>have hg:=s.sto _ _ S;have k:f.data.toList.length=f.size:=(by rw[Array.length_toList];rfl);have call:=Tryz.builder_str b g a1 R D f.data.toList w (by intro e;rw[e]at k;exact h0 k.symm) (by rw[k];exact h3) hg (by rw[k];exact z) (by rw[k];exact L) (by rw[k];omega) λj x hx=>J j x (by simpa using hx);refine call.mono ?_;rintro e w' ⟨rfl,rfl⟩;(have hw:w.drew.freeze ⟨g,0,none⟩ f.data.toList.length=w.drew:=by unfold World.freeze;split;rfl;(have:w.drew.heap.modify g (λo=>match o with|.cells c elem (lo,hi)=>.cells c elem (if lo==hi then(0,0+f.data.toList.length)else(min lo 0,max hi (0+f.data.toList.length)))|o=>o)=w.drew.heap:=by apply Array.ext_getElem?;intro i;rw[Array.getElem?_modify];split;rename_i e;subst e;have:w.drew.heap[g]?=some (.cells D 5 (0,f.size)):=hg;rw[this];simp[k,Ne.symm h0];rfl);exact congrArg (λh=>{w.drew with heap:=h}) this);rw[hw];have V:(⟨f.data.toList.toArray⟩:Β)=f:=ψ;rw[V];exact⟨_,σ,ι,rfl,Le.refl _ _ _,s.drew _,.of_val _⟩
end Go.Ab
namespace Go.Ab
open Go Go.Proofs Go.Proofs.Tryz
set_option linter.unusedVariables false
class OK{α:Type}(o:Option α)(G:outParam (α->Prop)):Prop where
 ok:∀{r:α},o=some r->G r
theorem F4{α:Type}{G:α->Prop}:OK (none:Ο α) G:=⟨λh=>by cases h⟩
section
variable{P:Program}{C:Cfg}{X:Nat->Cn->Hp->Prop}{U:Nat->Nat->Cn->Hp->Prop}{V:Nat->Cn->Hp->Prop}{n:Nat}{e:Cn}{H:Hp}{β:Type}{r:β}
variable{T:Dv}{an:Nat->Ann}{nl:Nat->Da}{ops:Array Oper}{o:Oper}{os:Λ Oper}{acc:Mc}{K:Nat->Cn->Hp->Mc->Prop}
variable{fn:Func}{hi i lo:Int}{xs ys zs:Λ AV}{hs:Λ Bx}{b kk n0:Nat}{E S α:Type}{J:E->Ο β}{l:Λ α}{g:Λ α->Λ AV}{m:Λ α->Ο β}{s0:S}{I:S->Λ (Nat×AV)}{hv:S->Λ (Nat×Bx)}{x:α}{ra:α->AV}{G:α->Prop}
theorem H6{p:Nat×Bool}{s:Nat}{b:Bool}{m m':Ο β}(h:(bif b then m else m')=some r)(d:b=true->m=some r->Gu (Gi P T an nl ops (o::os) n (Be e s (.val (.bool true))) H acc K))(j:b=false->m'=some r->Gu (Gi P T an nl ops (o::os) n (Be e s (.val (.bool false))) H acc K))(hg:o.guard=some p:=by exact rfl)(hs:(ops[p.1]?).bind (·.dst)=some s:=by exact rfl)(hb:e s=.val (.bool b):=by exact rfl):Gu (Gi P T an nl ops (o::os) n e H acc K):=A38 h d j hb
theorem nw{c:Code}(k:wc P C c X U V n e H):Gu (wc P C c X U V n e H):=.mk k
theorem C6{o:S⊕E}{x:E}(h:some (Sum.inr x)=some o)(d:∀x,Sum.inr x=o->J x=some r:=by assumption):J x=some r:=d x (Option.some.inj h)
theorem lpj{o:S}{J:S->Ο β}{x:S}(h:some x=some o)(d:∀y,y=o->J y=some r:=by assumption):J x=some r:=d x (Option.some.inj h)
theorem lpn{o:S⊕E}{s':S}{K:Nat->Cn->Hp->Prop}{d:S->Prop}{H0:Hp}(h:some (Sum.inl s')=some o)(q:∀s' s j k,Sum.inl s'=o->I2 j (I s')->I3 k (Dd H0 (hv s')) n0 n0->d s'->K s j k:=by assumption)(hs:I2 e (I s'):=by(repeat refine⟨rfl,?_⟩);exact trivial)(u:I3 H (Dd H0 (hv s')) n0 n0:=by(repeat refine⟨⟨rfl,rfl⟩,?_⟩);exact trivial)(hi:d s':=by first|trivial|exact rfl|((repeat refine F9 ?_ _ _);first|exact rfl|assumption)):K n e H:=q s' n e H (Option.some.inj h) hs u hi
theorem jnn{o x:E}{s:S}{J:S->Prop}{K:Nat->Cn->Hp->Prop}{H0:Hp}(h:some x=some o)(k:∀s q d j,J s->I2 d (I s)->I3 j (Dd H0 (hv s)) n0 n0->K q d j:=by assumption)(u:J s:=by exact Option.some.inj h)(hs:I2 e (I s):=by(repeat refine⟨rfl,?_⟩);exact trivial)(y:I3 H (Dd H0 (hv s)) n0 n0:=by(repeat refine⟨⟨rfl,rfl⟩,?_⟩);exact trivial):K n e H:=k s n e H u hs y
theorem Lw{o:Ο α}{m:α->Ο β}{f:FuncId}{args:Λ AV}{K:Eff->Nat->Prop}(h:o.bind m=some r)[i:OK o G](k:∀v,m v=some r->K ⟨ra v,[],[]⟩ n)(d:∀v,G v->A5 P f args (ra v):=by exactλ_ h=>h)(j:args.all AV.free=true:=by exact rfl):G4 P n H f args K:=Dz h λv hv h=>G4.mk _ (d v (i.ok hv)) j (k v h)
theorem As2{o:Ο α}{m:α->Ο β}{f:FuncId}{args d:Λ AV}{K:Eff->Nat->Prop}(h:o.bind m=some r)[i:OK o G](k:∀v,m v=some r->K ⟨ra v,[],[]⟩ n)(j:∀v,G v->A5 P f d (ra v):=by exactλ_ h=>h)(hs:Sy args d:=by(repeat first|refine⟨Sub.refl _,?_⟩|refine⟨Sub.nil _,?_⟩);exact trivial)(q:args.all AV.free=true:=by exact rfl):G4 P n H f args K:=Dz h λv hv h=>G4.mk _ (A5.sub (j v (i.ok hv)) hs (Sub.refl _)) q (k v h)
theorem T7{o:Ο α}{m:α->Ο β}{f:FuncId}{args largs:Λ AV}{hs':α->Λ Bx}{K:Eff->Nat->Prop}(l:Ca)(h:o.bind m=some r)[i:OK o G](k:∀v,m v=some r->K ⟨ren (Du n l) (ra v),Fx (Du n l) 0 hs++C5 (Du n l) l.length ((hs' v).length-l.length),Fx (Du n l) 0 (hs' v)⟩ (n+((hs' v).length-l.length)))(d:∀v,G v->B6 P f largs hs (ra v) (hs' v):=by exactλ_ h=>h)(j:largs.map (ren (Du n l))=args:=by exact rfl)(ok:∀v,Nj n l largs hs (ra v) (hs' v)=true:=by exactλ_=>rfl)(q:P4 H (Fx (Du n l) 0 hs):=by(repeat refine⟨rfl,?_⟩);exact trivial):G4 P n H f args K:=Dz h λv hv h=>G4.act l largs hs (ra v) (hs' v) (d v (i.ok hv)) j (ok v) q (k v h)
theorem M4{f:α->AV}{m:α->Ο β}{K:Nat->AV->Prop}(h:(Ag l i).bind m=some r)(k:∀(n:Nat)(x:α),i=n->l[n]?=some x->m x=some r->K n (f x))(d:ys=l.map f:=by first|exact rfl|exact Mg _|exact Lc _):X3 ys i K:=Aly d h k
theorem Jp{f:α->AV}{m:α->Ο β}{K:Nat->Prop}{len:Nat}(h:(Ag l i).bind m=some r)(k:∀(n:Nat)(x:α),i=n->l[n]?=some x->m x=some r->K n)(d:ys=l.map f:=by first|exact rfl|exact Mg _|exact Lc _)(j:len=l.length:=by first|exact rfl|assumption|exact Jo (by assumption)|((repeat refine F9 ?_ _ _);first|exact rfl|assumption))(q:kk=l.length:=by first|exact rfl|assumption|exact Jo (by assumption)|((repeat refine F9 ?_ _ _);first|exact rfl|assumption)):Vc len kk ys i K:=A39 d j q h k
theorem Ki{f:α->AV}{m:α->Ο β}{K:Nat->Prop}{off len:Nat}(h:(Gk l off len i).bind m=some r)(k:∀(n:Nat)(x:α),i=n->l[off+n]?=some x->m x=some r->K n)(d:ys=l.map f:=by first|exact rfl|exact Mg _|exact Lc _)(j:kk=l.length:=by first|exact rfl|assumption|exact Jo (by assumption)|((repeat refine F9 ?_ _ _);first|exact rfl|assumption)):Vc len kk ys i K:=A4a d j h k
theorem T8{f:α->AV}{K:Int->Prop}(k:K (l.length:Int))(d:ys=l.map f:=by first|exact rfl|exact Mg _|exact Lc _):O5 ys K:=Asg d k
theorem T9{f:α->AV}{K:Prop}(k:K)(d:ys=l.map f:=by first|exact rfl|exact Mg _|exact Lc _)(h:kk=l.length:=by first|exact rfl|assumption|exact Jo (by assumption)|((repeat refine F9 ?_ _ _);first|exact rfl|assumption)):Iv kk ys K:=A4g d h k
theorem Ua{K:Prop}(k:K):Iv 0 [] K:=.mk rfl k
theorem Ub{f:α->AV}{n i:Nat}{K:AV->Prop}(k:K (f x))(d:ys=l.map f:=by first|exact rfl|exact Mg _|exact Lc _)(h:kk=l.length:=by first|exact rfl|assumption|exact Jo (by assumption)|((repeat refine F9 ?_ _ _);first|exact rfl|assumption))(hi:i=n/\l[n]?=some x:=by first|exact⟨Nat.zero_add _,by assumption⟩|exact⟨rfl,by assumption⟩):Nz kk i ys K:=A4b d h hi.1 hi.2 k
theorem As3{f:α->AV}{n i:Nat}{j:Int}{p:AV}{K:Λ AV->Prop}(k:K ((Cl l j x).map f))(d:ys=l.map f:=by first|exact rfl|exact Mg _|exact Lc _)(hp:p=f x:=by exact rfl)(hi:i=n/\j=(n:Int):=by first|exact⟨Nat.zero_add _,by assumption⟩|exact⟨rfl,by assumption⟩|exact⟨rfl,Vl _ (by assumption)⟩):Aav ys i p K:=Jd d hp hi.1 hi.2 k
theorem J0{ys:Λ α}{f:α->AV}{len:Nat}{K:Λ AV->Nat->Prop}{j:Λ AV->Nat->Nat->Prop}(h:(B5 b l ys).bind m=some r)(k:∀o:Λ α,m o=some r->K (o.map f) o.length)(d:xs=l.map f/\zs=ys.map f:=by first|exact⟨rfl,rfl⟩|(refine⟨?_,?_⟩;rotate_left;exact rfl;exact rfl))(q:kk=l.length:=by first|exact rfl|assumption|exact Jo (by assumption)|((repeat refine F9 ?_ _ _);first|exact rfl|assumption))(s:len=l.length:=by first|exact rfl|assumption|exact Jo (by assumption)|((repeat refine F9 ?_ _ _);first|exact rfl|assumption)):Ny xs zs kk len b K j:=Vo d.1 d.2 q s h k
theorem As4{l:Ae}{s:Β}{len:Nat}{m:Ae->Ο β}{K:Λ AV->Nat->Prop}{d:Λ AV->Nat->Nat->Prop}(h:(B5 b l (O9 s)).bind m=some r)(k:∀o:Ae,m o=some r->K (o.map λn=>.val (.int .u8 n)) o.length)(j:xs=l.map λn=>.val (.int .u8 n):=by exact rfl)(q:kk=l.length:=by first|exact rfl|assumption|exact Jo (by assumption)|((repeat refine F9 ?_ _ _);first|exact rfl|assumption))(u:len=l.length:=by first|exact rfl|assumption|exact Jo (by assumption)|((repeat refine F9 ?_ _ _);first|exact rfl|assumption)):Ny xs (K7 s) kk len b K d:=A4e j q u h k
class GL{α:Type}(g:List α->List AV)(f:outParam (α->AV)):Prop where
 eq:∀l,g l=l.map f
instance:GL Bt Eb:=⟨Mg⟩
instance:GL Gd Eg:=⟨Lc⟩
theorem As5{f:α->AV}[i:GL g f]{ys:Λ α}{len:Nat}{K:Λ AV->Nat->Prop}{d:Λ AV->Nat->Nat->Prop}(h:(B5 b l ys).bind m=some r)(k:∀o:Λ α,m o=some r->K (g o) o.length)(j:zs=ys.map f:=by first|exact rfl|exact GL.eq _)(q:kk=l.length:=by first|exact rfl|assumption|exact Jo (by assumption)|((repeat refine F9 ?_ _ _);first|exact rfl|assumption))(s:len=l.length:=by first|exact rfl|assumption|exact Jo (by assumption)|((repeat refine F9 ?_ _ _);first|exact rfl|assumption)):Ny (g l) zs kk len b K d:=Ase i.eq (i.eq l) j q s h k
theorem As6{ys:Λ α}{f:α->AV}{K:Λ AV->Nat->Prop}(h:(B5 b [] ys).bind m=some r)(k:∀o:Λ α,m o=some r->K (o.map f) o.length)(d:zs=ys.map f:=by exact rfl):Vd zs b K:=Asd d h k
theorem As7{f:α->AV}[i:GL g f]{ys:Λ α}{K:Λ AV->Nat->Prop}(h:(B5 b [] ys).bind m=some r)(k:∀o:Λ α,m o=some r->K (g o) o.length)(d:zs=g ys:=by exact rfl):Vd zs b K:=Asf i.eq (d.trans (i.eq ys)) h k
theorem J9{z:α}{f:α->AV}{j:AV}{len d:Int}{K:Nat->Λ AV->Prop}(h:(Hi b len d z).bind m=some r)(k:∀o:Λ α,m o=some r->K o.length (o.map f))(q:j=f z:=by first|exact(rfl:_=O _ _)|exact(rfl:_=Ax _)|exact rfl):X4 len d b j K:=A4f q h k
theorem Wu{f:α->AV}{K:Λ AV->Prop}(h:(Fb l lo hi).bind m=some r)(k:∀d:Λ α,m d=some r->K (d.map f))(j:ys=l.map f:=by first|exact rfl|exact Mg _|exact Lc _):O4 ys lo hi K:=Al2 j h k
theorem As8{f:α->AV}[i:GL g f]{K:Λ AV->Prop}(h:(Fb l lo hi).bind m=some r)(k:∀d:Λ α,m d=some r->K (g d)):O4 (g l) lo hi K:=A4c i.eq (i.eq l) h k
theorem Qq{f:α->AV}[i:GL g f]{K:Λ AV->Prop}(h:(Fb l lo l.length).bind m=some r)(k:∀d:Λ α,m d=some r->K (g d)):O4 (g l) lo (g l).length K:=A4d i.eq (i.eq l) h k
theorem Ahj{f:α->AV}{K:Λ AV->Prop}(h:(Fb l lo l.length).bind m=some r)(k:∀d:Λ α,m d=some r->K (d.map f))(j:ys=l.map f:=by first|exact rfl|exact Mg _|exact Lc _):O4 ys lo ys.length K:=Asb j h k
theorem Hk{step:S->Ο (S⊕E)}{b:Code}(h:(Am step s0).bind J=some r)(I:S->Λ (Nat×AV))(hv:S->Λ (Nat×Bx))(d:S->Prop)(j:∀(s:S)(u:Nat->Value)(K:Nat->Cn->Hp->Prop)(o:S⊕E),step s=some o->(∀x,.inr x=o->J x=some r)->(∀k A q y,.inl k=o->I2 q (I k)->I3 y (Dd H (hv k)) n n->d k->K A q y)->d s->wc P C b K U V n (Mw (Ix b) e u (I s)) (Dd H (hv s)))(hb:∀s,N2 n (I s) (hv s)=true:=by exactλ_=>rfl)(hs:I2 e (I s0):=by(repeat refine⟨rfl,?_⟩);exact trivial)(B:I3 H (Dd H (hv s0)) n n:=by(repeat refine⟨⟨rfl,rfl⟩,?_⟩);exact trivial)(h0:d s0:=by first|exact rfl|assumption|exact Jo (by assumption)|((repeat refine F9 ?_ _ _);first|exact rfl|assumption)):wc P C (.loop b) X U V n e H:=Asn h I hv d hb hs B h0 j
theorem A4w{step:S->Ο (S⊕E)}{b:Code}(h:(Am step s0).bind J=some r)(I:S->Λ (Nat×AV))(hv:S->Λ (Nat×Bx))(d:∀(s:S)(u:Nat->Value)(K:Nat->Cn->Hp->Prop)(o:S⊕E),step s=some o->(∀x,.inr x=o->J x=some r)->(∀j y k q,.inl j=o->I2 k (I j)->I3 q (Dd H (hv j)) n n->True->K y k q)->wc P C b K U V n (Mw (Ix b) e u (I s)) (Dd H (hv s)))(hb:∀s,N2 n (I s) (hv s)=true:=by exactλ_=>rfl)(hs:I2 e (I s0):=by(repeat refine⟨rfl,?_⟩);exact trivial)(A:I3 H (Dd H (hv s0)) n n:=by(repeat refine⟨⟨rfl,rfl⟩,?_⟩);exact trivial):wc P C (.loop b) X U V n e H:=Asn h I hv (λ_=>True) hb hs A trivial λs u K o B D L _=>d s u K o B D L
theorem Ahk{S':Type}{c:Code}{o:Ο S'}{m:S'->Ο β}(d:S->S')(h:o.bind m=some r)(I:S->Λ (Nat×AV))(hv:S->Λ (Nat×Bx))(A:∀x,o=some x->∀(K:Nat->Cn->Hp->Prop),(∀s B j k,d s=x->I2 j (I s)->I3 k (Dd H (hv s)) n n->K B j k)->(∀y,y=x->m y=some r)->wc P C c K U V n e H)(D:∀(s:S)(u:Nat->Value),m (d s)=some r->X n (Mw (Ix c) e u (I s)) (Dd H (hv s)))(hb:∀s,N2 n (I s) (hv s)=true:=by exactλ_=>rfl):wc P C c X U V n e H:=Rh h λx L q=>Nm (λs=>d s=x) I hv hb (λK M=>A x L K M q) λs u hs=>D s u (q _ hs)
theorem Oc{c:Code}{o:Ο S}{m:S->Ο β}(h:o.bind m=some r)(I:S->Λ (Nat×AV))(hv:S->Λ (Nat×Bx))(k:∀x,o=some x->∀(K:Nat->Cn->Hp->Prop),(∀s q d j,s=x->I2 d (I s)->I3 j (Dd H (hv s)) n n->K q d j)->(∀y,y=x->m y=some r)->wc P C c K U V n e H)(A:∀(s:S)(u:Nat->Value),m s=some r->X n (Mw (Ix c) e u (I s)) (Dd H (hv s)))(hb:∀s,N2 n (I s) (hv s)=true:=by exactλ_=>rfl):wc P C c X U V n e H:=Ahk (λs=>s) h I hv k A hb
abbrev ii(f:Nat->Da):Cfg:={T:=Cp,an:=λ_=>.ask,nl:=f}
abbrev ij(g:Nat->Ann)(f:Nat->Da):Cfg:={T:=Cp,an:=g,nl:=f}
abbrev ik:Nat->Da:=λ_=>[]
abbrev iv(k:Nat)(l:Da)(f:Nat->Da):Nat->Da:=λs=>bif Nat.beq s k then l else f s
abbrev iu(k a b:Nat)(f:Nat->Da):Nat->Da:=λs=>bif Nat.beq s k then[(a,b)]else f s
abbrev iw:Nat->Ann:=λ_=>.ask
abbrev ix(k:Nat)(x:Ann)(f:Nat->Ann):Nat->Ann:=λs=>bif Nat.beq s k then x else f s
abbrev iy{α β:Type}:α->Λ β:=λ_=>[]
abbrev iz:=A5 prog
abbrev ia:=B6 prog
abbrev C0:Cfg:={T:=Cp,an:=λ_=>.ask}
theorem pw{f:FuncId}{c:Code}{args:Λ AV}{r:AV}(C:Cfg)(k:prog.funcs[f]?=some fn)(hv:wc prog C c (λ_ e H=>Vg C.T fn.results.toList (· = r) e H) (λ_ _ _ _=>False) (λ_ e H=>Vg C.T fn.results.toList (· = r) e H) 0 (X9 args) H0)(q:C.T=Cp:=by exact rfl)(hb:fn.body=some c:=by exact rfl)(d:(fn.name == "runtime.NumGoroutine")=false:=by kernel_rfl)(j:Ya fn c args.length=true:=by kernel_rfl)(h:r.free=true:=by exact rfl):A5 prog f args r:=A4h (by rw[q];exact Ast) Aa0 k hb d j h hv
theorem aw{f:FuncId}{c:Code}{args:Λ AV}{r:AV}{hs':Λ Bx}(C:Cfg)(j:Bool)(q:prog.funcs[f]?=some fn)(hv:wc prog C c (λ_ e H=>Vj C.T j fn.results.toList r hs' e H) (λ_ _ _ _=>False) (λ_ e H=>Vj C.T j fn.results.toList r hs' e H) hs.length (X9 args) (hp hs))(s:C.T=Cp:=by exact rfl)(hb:fn.body=some c:=by exact rfl)(d:(fn.name == "runtime.NumGoroutine")=false:=by kernel_rfl)(k:Ya fn c args.length=true:=by kernel_rfl)(h:Alt hs r hs'=true:=by exact rfl):B6 prog f args hs r hs':=A4i j (by rw[s];exact Ast) Aa0 q hb d k h hv
end
variable{P Q:Prop}
theorem opk{P:Program}{T:Dv}{an:Nat->Ann}{nl:Nat->Da}{o:Oper}{n:Nat}{e:Cn}{H:Hp}{acc:Mc}{K:Nat->Cn->Hp->Mc->Prop}(k:opK P T an nl o n e H acc K):opK P T an nl o n e H acc K:=k
theorem cnd{t:Bool}{A B:Prop}(k:bif t then A else B):bif t then A else B:=k
structure Hd(Q:Prop):Prop where
 get:Q
theorem Z(k:Q)(h:Hd Q->P:=by
  intro q
  repeat first
    |((with_reducible show Gu (Gi _ _ _ _ _ (_::_) _ _ _ _ _));(first|refine nx ?_|refine S0 ?_|refine Sz ?_))
    | ((with_reducible refine opk ?_);conv=>whnf
       first
      |((with_reducible show Gu _);refine nw ?_)
      |((with_reducible show Jy _ _ _);refine Jy.mk _ rfl ?_)
      |((with_reducible show O5 _ _);refine T8 ?_)
      |((with_reducible show Nz _ _ _ _);refine Ub ?_)
      |((with_reducible show Iv _ _ _);(first|refine T9 ?_|refine Ua ?_)))
    |((with_reducible show Gu (Gi _ _ _ _ _ [] _ _ _ _ _));refine N4 ?_)
    |((with_reducible show Gu (wc _ _ _ _ _ _ _ _ _));refine nw ?_)
    |with_reducible refine A6 ?_
    |with_reducible refine G9 ?_
    |with_reducible refine Al6 ?_
    |with_reducible refine Mx ?_
    |with_reducible refine Nl ?_
    |with_reducible refine G8 ?_
    |with_reducible refine Ask ?_
    |with_reducible refine Al8 ?_
    |with_reducible refine Al7 ?_
    |((with_reducible refine cnd ?_);first|refine G5 rfl ?_|refine Aln rfl ?_)
    |((with_reducible show P6 _ _ _);refine P6.mk κ ?_)
    |((with_reducible show wc _ _ (.cond _ _ _) _ _ _ _ _ _);first|refine Aga ?_|refine S5 ?_)
    |refine nw ?_
    |refine nx ?_
    |refine N4 ?_
    |refine S0 ?_
    |refine Sz ?_
    | (conv=>whnf
       first
      |((with_reducible show Gu _);refine nw ?_)
      |((with_reducible show Jy _ _ _);refine Jy.mk _ rfl ?_)
      |((with_reducible show O5 _ _);refine T8 ?_)
      |((with_reducible show Nz _ _ _ _);refine Ub ?_)
      |((with_reducible show Iv _ _ _);(first|refine T9 ?_|refine Ua ?_)))
  exact q.get):P:=h ⟨k⟩
theorem ZS(k:Q)(h:Hd Q->P:=by
  intro q
  repeat first
    |((with_reducible show Gu (Gi _ _ _ _ _ (_::_) _ _ _ _ _));(first|refine nx ?_|refine S0 ?_|refine Sz ?_))
    | ((with_reducible refine opk ?_);conv=>whnf
       first
      |((with_reducible show Gu _);refine nw ?_)
      |((with_reducible show Jy _ _ _);refine Jy.mk _ rfl ?_)
      |((with_reducible show O5 _ _);refine T8 ?_)
      |((with_reducible show Nz _ _ _ _);refine Ub ?_)
      |((with_reducible show Iv _ _ _);(first|refine T9 ?_|refine Ua ?_)))
    |((with_reducible show Gu (Gi _ _ _ _ _ [] _ _ _ _ _));refine N4 ?_)
    |((with_reducible show Gu (wc _ _ _ _ _ _ _ _ _));refine nw ?_)
    |with_reducible refine A6 ?_
    |with_reducible refine Al6 ?_
    |with_reducible refine Mx ?_
    |with_reducible refine Nl ?_
    |with_reducible refine G8 ?_
    |with_reducible refine Al8 ?_
    |with_reducible refine Al7 ?_
    |((with_reducible refine cnd ?_);first|refine G5 rfl ?_|refine Aln rfl ?_)
    |((with_reducible show P6 _ _ _);refine P6.mk κ ?_)
    |((with_reducible show wc _ _ (.cond _ _ _) _ _ _ _ _ _);first|refine Aga ?_|refine S5 ?_)
    |refine nw ?_
    |refine nx ?_
    |refine N4 ?_
    |refine S0 ?_
    |refine Sz ?_
    | (conv=>whnf
       first
      |((with_reducible show Gu _);refine nw ?_)
      |((with_reducible show Jy _ _ _);refine Jy.mk _ rfl ?_)
      |((with_reducible show O5 _ _);refine T8 ?_)
      |((with_reducible show Nz _ _ _ _);refine Ub ?_)
      |((with_reducible show Iv _ _ _);(first|refine T9 ?_|refine Ua ?_)))
  exact q.get):P:=h ⟨k⟩
theorem ZO(k:Q)(h:Hd Q->P:=by
  intro q
  repeat first
    |((with_reducible show Gu (Gi _ _ _ _ _ (_::_) _ _ _ _ _));(first|refine nx ?_|refine S0 ?_|refine Sz ?_))
    | ((with_reducible refine opk ?_);conv=>whnf
       first
      |((with_reducible show Jy _ _ _);refine Jy.mk _ rfl ?_)
      |((with_reducible show O5 _ _);refine T8 ?_)
      |((with_reducible show Nz _ _ _ _);refine Ub ?_)
      |((with_reducible show Iv _ _ _);(first|refine T9 ?_|refine Ua ?_)))
    |((with_reducible show Gu (Gi _ _ _ _ _ [] _ _ _ _ _));refine N4 ?_)
    |((with_reducible show P6 _ _ _);refine P6.mk κ ?_)
    |refine nx ?_
    |refine N4 ?_
    |refine S0 ?_
    |refine Sz ?_
    | (conv=>whnf
       first
      |((with_reducible show Jy _ _ _);refine Jy.mk _ rfl ?_)
      |((with_reducible show O5 _ _);refine T8 ?_)
      |((with_reducible show Nz _ _ _ _);refine Ub ?_)
      |((with_reducible show Iv _ _ _);(first|refine T9 ?_|refine Ua ?_)))
  exact q.get):P:=h ⟨k⟩
theorem Y(h:P:=by
  repeat' first
    |((with_reducible show Gu (Gi _ _ _ _ _ (_::_) _ _ _ _ _));first|refine nx ?_|refine S0 ?_|refine Sz ?_|refine H6 h (λ_ h=>?_) λ_ h=>?_)
    | ((with_reducible refine opk ?_);conv=>whnf
       first
      |((with_reducible show Gu _);refine nw ?_)
      |((with_reducible show Jy _ _ _);refine Jy.mk _ rfl ?_)
      |((with_reducible show O5 _ _);refine T8 ?_)
      |((with_reducible show G4 _ _ _ _ _ _);(first|refine Lw h (λ_ h=>?_)|refine As2 h λ_ h=>?_))
      |((with_reducible show X3 _ _ _);refine M4 h λ_ _ _ _ h=>?_)
      |((with_reducible show Vc _ _ _ _ _);(first|refine Jp h (λ_ _ _ _ h=>?_)|refine Ki h λ_ _ _ _ h=>?_))
      |((with_reducible show Nz _ _ _ _);refine Ub ?_)
      |((with_reducible show Aav _ _ _ _);refine As3 ?_)
      |((with_reducible show Ny _ _ _ _ _ _ _);(first|refine As4 h (λ_ h=>?_)|refine J0 h (λ_ h=>?_)|refine As5 h λ_ h=>?_))
      |((with_reducible show Vd _ _ _);(first|refine As6 h (λ_ h=>?_)|refine As7 h λ_ h=>?_))
      |((with_reducible show X4 _ _ _ _ _);refine J9 h λ_ h=>?_)
      |((with_reducible show O4 _ _ _ _);(first|refine Qq h (λ_ h=>?_)|refine Ahj h (λ_ h=>?_)|refine As8 h (λ_ h=>?_)|refine Wu h λ_ h=>?_))
      |((with_reducible show Iv _ _ _);(first|refine T9 ?_|refine Ua ?_))
      |((with_reducible show Afp _ _ _);refine Pb h λ_ h=>?_)
      |((with_reducible show Afk _ _ _ _);refine Aa6 h λ_ h=>?_)
      |((with_reducible show Afl _ _ _);refine Af9 h λ_ h=>?_)
      |((with_reducible show Afm _ _ _ _);refine Asi h λ_ h=>?_)
      |((with_reducible show Afn _ _ _ _);refine Al4 h λ_ _ _ _ h=>?_)
      |((with_reducible show Afq _ _);refine Je h λh=>?_)
      |((with_reducible show Afr _ _ _ _ _);refine Ar9 h λ_ h=>?_)
      |((with_reducible show Afs _ _ _ _);refine Asa h λ_ h=>?_))
    |((with_reducible show Gu (Gi _ _ _ _ _ [] _ _ _ _ _));refine N4 ?_)
    |((with_reducible show Gu (wc _ _ _ _ _ _ _ _ _));refine nw ?_)
    |with_reducible refine A6 ?_
    |with_reducible refine G9 ?_
    |with_reducible refine Al6 ?_
    |with_reducible refine Mx ?_
    |with_reducible refine Nl ?_
    |with_reducible refine G8 ?_
    |with_reducible refine Ask ?_
    |with_reducible refine Al8 ?_
    |with_reducible refine Al7 ?_
    |((with_reducible refine cnd ?_);first|refine G5 rfl ?_|refine Aln rfl ?_)
    |((with_reducible show wc _ _ (.cond _ _ _) _ _ _ _ _ _);first|refine D1 h (λ_ h=>?_) (λ_ h=>?_)|refine Aga ?_|refine S5 ?_)
    |((with_reducible show P6 _ _ _);refine P6.mk κ ?_)
    |refine nx ?_
    |refine N4 ?_
    |refine S0 ?_
    |refine Sz ?_
    |refine H6 h (λ_ h=>?_) (λ_ h=>?_)
    |exact lpn h
    |exact jnn h
    |replace h:=C6 h
    |replace h:=lpj h
    |refine nw ?_
    | (conv=>whnf
       first
      |((with_reducible show Gu _);refine nw ?_)
      |((with_reducible show Jy _ _ _);refine Jy.mk _ rfl ?_)
      |((with_reducible show O5 _ _);refine T8 ?_)
      |((with_reducible show G4 _ _ _ _ _ _);(first|refine Lw h (λ_ h=>?_)|refine As2 h λ_ h=>?_))
      |((with_reducible show X3 _ _ _);refine M4 h λ_ _ _ _ h=>?_)
      |((with_reducible show Vc _ _ _ _ _);(first|refine Jp h (λ_ _ _ _ h=>?_)|refine Ki h λ_ _ _ _ h=>?_))
      |((with_reducible show Nz _ _ _ _);refine Ub ?_)
      |((with_reducible show Aav _ _ _ _);refine As3 ?_)
      |((with_reducible show Ny _ _ _ _ _ _ _);(first|refine As4 h (λ_ h=>?_)|refine J0 h (λ_ h=>?_)|refine As5 h λ_ h=>?_))
      |((with_reducible show Vd _ _ _);(first|refine As6 h (λ_ h=>?_)|refine As7 h λ_ h=>?_))
      |((with_reducible show X4 _ _ _ _ _);refine J9 h λ_ h=>?_)
      |((with_reducible show O4 _ _ _ _);(first|refine Qq h (λ_ h=>?_)|refine Ahj h (λ_ h=>?_)|refine As8 h (λ_ h=>?_)|refine Wu h λ_ h=>?_))
      |((with_reducible show Iv _ _ _);(first|refine T9 ?_|refine Ua ?_))
      |((with_reducible show Afp _ _ _);refine Pb h λ_ h=>?_)
      |((with_reducible show Afk _ _ _ _);refine Aa6 h λ_ h=>?_)
      |((with_reducible show Afl _ _ _);refine Af9 h λ_ h=>?_)
      |((with_reducible show Afm _ _ _ _);refine Asi h λ_ h=>?_)
      |((with_reducible show Afn _ _ _ _);refine Al4 h λ_ _ _ _ h=>?_)
      |((with_reducible show Afq _ _);refine Je h λh=>?_)
      |((with_reducible show Afr _ _ _ _ _);refine Ar9 h λ_ h=>?_)
      |((with_reducible show Afs _ _ _ _);refine Asa h λ_ h=>?_))
    |(have h:=Option.some.inj h;subst h;exact rfl)
    |(cases h;(repeat refine⟨rfl,?_⟩);exact trivial)
    |(cases h;done)
):P:=h
section
variable{P:Program}{C:Cfg}{X:Nat->Cn->Hp->Prop}{U:Nat->Nat->Cn->Hp->Prop}{V:Nat->Cn->Hp->Prop}{n:Nat}{e:Cn}{H:Hp}{β:Type}{r:β}{P0 Q:Prop}
variable{t:Bool}{a b:Code}{K:Eff->Nat->Prop}{largs:Λ AV}{hs:Λ Bx}{m m':Ο β}{S α:Type}{o:Ο α}{ra:α->AV}{hs':α->Λ Bx}{G:α->Prop}
theorem Bl{c:Operand}(h:(bif t then m else m')=some r)(d:t=true->m=some r->wc P C a X U V n e H)(j:t=false->m'=some r->wc P C b X U V n e H)(k:Hd (wc P C (.cond c a b) X U V n e H)->P0:=by exactλq=>Z q.get)(s:ev e c=.val (.bool t):=by exact rfl):P0:=k ⟨D1 h d j s⟩
theorem B8{c:Operand}(h:(bif t then m else m')=some r)(d:t=false->m'=some r->wc P C b X U V n e H)(j:Hd (wc P C (.cond c a b) X U V n e H)->P0:=by exactλq=>Z q.get)(k:ev e c=.val (.bool t):=by exact rfl)(s:t=true->m=some r->wc P C a X U V n e H:=by intro _ h;exact Y):P0:=j ⟨D1 h s d k⟩
theorem A8{E:Type}{step:S->Ο (S⊕E)}{s0:S}{J:E->Ο β}(h:(Am step s0).bind J=some r)(I:S->Λ (Nat×AV))(hv:S->Λ (Nat×Bx))(d:∀(s:S)(u:Nat->Value)(K:Nat->Cn->Hp->Prop)(o:S⊕E),step s=some o->(∀x,.inr x=o->J x=some r)->(∀j A k y,.inl j=o->I2 k (I j)->I3 y (Dd H (hv j)) n n->True->K A k y)->wc P C b K U V n (Mw (Ix b) e u (I s)) (Dd H (hv s)))(B:Hd (wc P C (.loop b) X U V n e H)->P0:=by exactλq=>Z q.get)(hb:∀s,N2 n (I s) (hv s)=true:=by exactλ_=>rfl)(hs:I2 e (I s0):=by(repeat refine⟨rfl,?_⟩);exact trivial)(D:I3 H (Dd H (hv s0)) n n:=by(repeat refine⟨⟨rfl,rfl⟩,?_⟩);exact trivial):P0:=B ⟨A4w h I hv d hb hs D⟩
theorem Bg{m:α->Ο β}{f:FuncId}{args:Λ AV}(h:o.bind m=some r)[i:OK o G](k:∀v,m v=some r->K ⟨ra v,[],[]⟩ n)(d:Hd (G4 P n H f args K)->P0:=by exactλq=>Z q.get)(j:∀v,G v->A5 P f args (ra v):=by exactλ_ h=>h)(s:args.all AV.free=true:=by exact rfl):P0:=d ⟨Lw h k j s⟩
theorem B4{l:Λ α}{f:α->AV}{ys:Λ AV}{i:Int}{m:α->Ο β}{K:Nat->AV->Prop}(h:(Ag l i).bind m=some r)(k:∀(n:Nat)(x:α),i=n->l[n]?=some x->m x=some r->K n (f x))(d:Hd (X3 ys i K)->P0:=by exactλq=>Z q.get)(j:ys=l.map f:=by first|exact rfl|exact Mg _|exact Lc _):P0:=d ⟨Aly j h k⟩
theorem Dp{m:α->Ο β}{f:FuncId}{args:Λ AV}(l:Ca)(h:o.bind m=some r)[i:OK o G](k:∀v,m v=some r->K ⟨ren (Du n l) (ra v),Fx (Du n l) 0 hs++C5 (Du n l) l.length ((hs' v).length-l.length),Fx (Du n l) 0 (hs' v)⟩ (n+((hs' v).length-l.length)))(d:Hd (G4 P n H f args K)->P0:=by exactλq=>Z q.get)(j:∀v,G v->B6 P f largs hs (ra v) (hs' v):=by exactλ_ h=>h)(s:largs.map (ren (Du n l))=args:=by exact rfl)(ok:∀v,Nj n l largs hs (ra v) (hs' v)=true:=by exactλ_=>rfl)(u:P4 H (Fx (Du n l) 0 hs):=by(repeat refine⟨rfl,?_⟩);exact trivial):P0:=d ⟨T7 l h k j s ok u⟩
theorem Cf{m:α->Ο β}{f:FuncId}{args:Λ AV}(l:Ca)(h:o.bind m=some r)[i:OK o G](d:Hd (G4 P n H f args K)->P0:=by exactλq=>Z q.get)(j:∀v,G v->B6 P f largs hs (ra v) (hs' v):=by exactλ_ h=>h)(s:largs.map (ren (Du n l))=args:=by exact rfl)(ok:∀v,Nj n l largs hs (ra v) (hs' v)=true:=by exactλ_=>rfl)(u:P4 H (Fx (Du n l) 0 hs):=by(repeat refine⟨rfl,?_⟩);exact trivial)(k:∀v,m v=some r->K ⟨ren (Du n l) (ra v),Fx (Du n l) 0 hs++C5 (Du n l) l.length ((hs' v).length-l.length),Fx (Du n l) 0 (hs' v)⟩ (n+((hs' v).length-l.length)):=by intro _ h;exact Y):P0:=d ⟨T7 l h k j s ok u⟩
theorem C4{c:Code}{o:Ο S}{m:S->Ο β}(h:o.bind m=some r)(I:S->Λ (Nat×AV))(hv:S->Λ (Nat×Bx))(k:∀(s:S)(u:Nat->Value),m s=some r->X n (Mw (Ix c) e u (I s)) (Dd H (hv s)))(hb:∀s,N2 n (I s) (hv s)=true:=by exactλ_=>rfl)(q:∀x,o=some x->∀(K:Nat->Cn->Hp->Prop),(∀s A d j,s=x->I2 d (I s)->I3 j (Dd H (hv s)) n n->K A d j)->(∀y,y=x->m y=some r)->wc P C c K U V n e H:=by intro _ h _ _ _;exact Y):wc P C c X U V n e H:=Oc h I hv q k hb
theorem ZR{id:Nat}{os:Λ Oper}(k:Q)(d:Hd (wc P C (.region id os.toArray false) X U V n e H)->P0:=by exactλq=>ZS q.get)(h:Hd Q->Gu (Gi P C.T C.an C.nl os.toArray os n e H [] λn e H _=>X n e H):=by exactλq=>ZO q.get):P0:=d ⟨G9 (h ⟨k⟩)⟩
end
set_option maxRecDepth 10000
theorem A4x{a0 r:Cr}(h:B5 16 [] a0=some r):A5 prog 214 [Az 2 Ld a0] (Az 2 Ld r):=by(have h:((B5 16 [] a0).bind λo=>some o)=some r:=by rw[h];rfl);refine pw {T:=Cp,an:=(λs=>bif Nat.beq s 5 then .own else .ask),nl:=(λs=>bif Nat.beq s 2 then[(0,2)]else[])} func214 ?_;refine A6 ?_;refine G9 ?_;refine ZO ?_;refine A6 (A6 ?_);refine Nm (λb:Bool=>b=true->a0=[]) (λb=>[(4,Ax b)]) (λ_=>[]) (λ_=>rfl) ?_ ?_;intro K j;refine Agb 0 ?_;intro v hv;obtain⟨p,c,rfl,hp⟩:=hv 2 (a0.map Ld) rfl;refine G9 ?_;refine nx ?_;refine nx ?_;refine N4 ?_;refine j p.isNone _ _ _ (λe=>?_) ⟨rfl,trivial⟩ trivial;(cases p with|none=>simpa using hp rfl|some _=>cases e);rintro b _ d;cases b with|true=>have d:=d rfl;subst d;have h:some ([]:Cr)=some r:=(by rw[<-h];rfl);exact Y|false=>refine Z ?_;exact Y
theorem A4y{a0:Ba}{r:List Bd×List Bd}(h:Rj 40 a0=some r):B6 prog 40 [Az 3 Ev a0] [] (.arr 1 r.2.length 0 r.2.length) [.rows 96 3 (r.1.map Ev),.rows 96 3 (r.2.map Ev)]:=by have h:((B5 40 [] a0).bind λo=>some (([]:Ba),o))=some r:=h;refine aw {T:=Cp,an:=(λs=>bif Nat.beq s 5 then .own else bif Nat.beq s 2 then .own else .ask),nl:=(λ_=>[])} false func40 ?_;refine A6 ?_;refine G9 ?_;refine ZO ?_;refine A6 (A6 ?_);refine Nm (λb:Bool=>b=true->a0=[]) (λb=>[(4,Ax b)]) (λ_=>[]) (λ_=>rfl) ?_ ?_;intro K j;refine Agb 0 ?_;intro v hv;obtain⟨p,c,rfl,hp⟩:=hv 3 (a0.map Ev) rfl;refine G9 ?_;refine nx ?_;refine nx ?_;refine N4 ?_;refine j p.isNone _ _ _ (λe=>?_) ⟨rfl,trivial⟩ ⟨⟨rfl,rfl⟩,trivial⟩;(cases p with|none=>simpa using hp rfl|some _=>cases e);rintro b _ d;cases b with|true=>have d:=d rfl;subst d;have h:some (([]:Ba),([]:Ba))=some r:=(by rw[<-h];rfl);cases h;refine ZO ?_;exact Y|false=>refine Z ?_;refine ZO ?_;refine J0 h λ_ h=>?_;exact Y
theorem A4z{a0:A7}{r:List Bf×List Bf}(h:Rj 40 a0=some r):B6 prog 46 [Az 3 Em a0] [] (.arr 1 r.2.length 0 r.2.length) [.rows 108 3 (r.1.map Em),.rows 108 3 (r.2.map Em)]:=by have h:((B5 40 [] a0).bind λo=>some (([]:A7),o))=some r:=h;refine aw {T:=Cp,an:=(λs=>bif Nat.beq s 5 then .own else bif Nat.beq s 2 then .own else .ask),nl:=(λ_=>[])} false func46 ?_;refine A6 ?_;refine G9 ?_;refine ZO ?_;refine A6 (A6 ?_);refine Nm (λb:Bool=>b=true->a0=[]) (λb=>[(4,Ax b)]) (λ_=>[]) (λ_=>rfl) ?_ ?_;intro K j;refine Agb 0 ?_;intro v hv;obtain⟨p,c,rfl,hp⟩:=hv 3 (a0.map Em) rfl;refine G9 ?_;refine nx ?_;refine nx ?_;refine N4 ?_;refine j p.isNone _ _ _ (λe=>?_) ⟨rfl,trivial⟩ ⟨⟨rfl,rfl⟩,trivial⟩;(cases p with|none=>simpa using hp rfl|some _=>cases e);rintro b _ d;cases b with|true=>have d:=d rfl;subst d;have h:some (([]:A7),([]:A7))=some r:=(by rw[<-h];rfl);cases h;refine ZO ?_;exact Y|false=>refine Z ?_;refine ZO ?_;refine J0 h λ_ h=>?_;exact Y
theorem A40{a0:A2}{r:List Af×List Af}(h:Rj 32 a0=some r):B6 prog 297 [Az 2 Eg a0] [] (.arr 1 r.2.length 0 r.2.length) [.rows 94 2 (r.1.map Eg),.rows 94 2 (r.2.map Eg)]:=by have h:((B5 32 [] a0).bind λo=>some (([]:A2),o))=some r:=h;refine aw {T:=Cp,an:=(λs=>bif Nat.beq s 5 then .own else bif Nat.beq s 2 then .own else .ask),nl:=(λ_=>[])} false func297 ?_;refine A6 ?_;refine G9 ?_;refine ZO ?_;refine A6 (A6 ?_);refine Nm (λb:Bool=>b=true->a0=[]) (λb=>[(4,Ax b)]) (λ_=>[]) (λ_=>rfl) ?_ ?_;intro K j;refine Agb 0 ?_;intro v hv;obtain⟨p,c,rfl,hp⟩:=hv 2 (a0.map Eg) rfl;refine G9 ?_;refine nx ?_;refine nx ?_;refine N4 ?_;refine j p.isNone _ _ _ (λe=>?_) ⟨rfl,trivial⟩ ⟨⟨rfl,rfl⟩,trivial⟩;(cases p with|none=>simpa using hp rfl|some _=>cases e);rintro b _ d;cases b with|true=>have d:=d rfl;subst d;have h:some (([]:A2),([]:A2))=some r:=(by rw[<-h];rfl);cases h;refine ZO ?_;exact Y|false=>refine Z ?_;refine ZO ?_;refine J0 h λ_ h=>?_;exact Y
end Go.Ab
namespace Go.Ab
open Go Go.Proofs Go.Shelf Go.Proofs.Tryz
set_option maxRecDepth 100000
set_option linter.unusedVariables false
variable{F σ:Bb}{ι:Ck}{H:Hp}{w:World}
theorem Dk.up{w':World}{x:Nat}(h:Dk σ ι H F w x)(hk:∀(b:Nat)(o:Obj),w.heap[b]?=some o->w'.heap[b]?=some o):Dk σ ι H F w' x:=by unfold Dk at h⊢;cases hx:H x with|none=>rw[hx]at h;exact h|dead=>trivial|cells E cs=>rw[hx]at h;obtain⟨b,C,h1,h2,h3,f,c⟩:=h;exact⟨b,C,h1,h2,h3,hk _ _ f,c⟩|rows E sz xs=>(rw[hx]at h;obtain⟨h0,h1,h2⟩:=h;refine⟨h0,h1,?_⟩;rcases h2 with h2|⟨b,tot,C,l,k,j,i,g⟩;exact .inl h2;exact .inr ⟨b,tot,C,l,k,j,hk _ _ i,g⟩)|map es=>rw[hx]at h;obtain⟨b,M,t,h1,h2,h3,f,c⟩:=h;exact⟨b,M,t,h1,h2,h3,hk _ _ f,c⟩
theorem St.growG{W:World}(s:St σ ι H F W w)(k:Nat)(os:Array Obj):St σ ι H F W (Sort.grow (Sort.ahead w k) os):=by(have hk:∀(b:Nat)(o:Obj),w.heap[b]?=some o->(Sort.grow (Sort.ahead w k) os).heap[b]?=some o:=by intro b o h;have c:=(Array.getElem?_eq_some_iff.1 h).1;show(w.heap++os)[b]?=_;rw[Array.getElem?_append_left c];exact h);exact⟨λb o h=>hk b o (s.sto b o h),λb o h=>⟨hk b o (s.fra b o h).1,(s.fra b o h).2⟩,λh=>(s.obj h).up hk,s.inj,s.os,s.tape,s.output,s.glo,Nat.le_trans s.drw (Nat.le_add_right _ _)⟩
theorem A41{α:Type}[Inhabited α](enc:α->Value)(w:World)(b:Nat)(d:Array α)(C:Array Value)(E:TypeId)(h:w.heap[b]?=some (.cells C E (0,0))):Sort.putRow enc w b 0 d=w.setRow b (Sort.putCells enc 0 d C):=by(have c:(Sort.putRow enc w b 0 d).heap=(w.setRow b (Sort.putCells enc 0 d C)).heap:=by apply Array.ext_getElem?;intro i;simp only[Sort.putRow,Sort.mapBlock,World.setRow,Array.getElem?_modify];split;rename_i e;subst e;rw[h];simp[Sort.onCells];rfl);unfold Sort.putRow Sort.mapBlock World.setRow at c⊢;simp only at c;rw[c]
end Go.Ab
namespace Go.Ab
open Go Go.Proofs Go.Shelf Go.Sort Go.Proofs.Tryz
set_option maxRecDepth 100000
set_option linter.unusedVariables false
variable{σ:Bb}{g:Nat}{α:Type}{v:Value}{b l r:Λ α}{cmp:α->α->A9}
theorem A42(h:F7 v=true):v.oneCell'=true:=by cases v<;>first|rfl|cases h
theorem A43{ι:Ck}{H:Hp}{f:FuncId}(h:Conc σ ι H (.fn f []) v):v=.func (.func f) #[] #[]:=by cases h with|cc h=>cases h|fn _ _ vs b _=>have:vs=#[]:=Array.size_eq_zero_iff.1 (by simpa using b);rw[this]
def As9(σ:Bb)(eA:α->AV)(sz:Nat)(S:Λ α)(x:α)(c:Λ Value):Prop:=x∈S/\(eA x).cells.length=sz/\c.length=sz/\∀(j:Nat)(a:AV)(v:Value),(eA x).cells[j]?=some a->c[j]?=some v->CC σ a v/\F7 v=true
abbrev Qs{α:Type}(σ:Bb)(eA:α->AV)(sz:Nat)(S:Λ α):Type:={p:α×List Value // As9 σ eA sz S p.1 p.2}
theorem A44{W w':World}(g:∀b o,W.heap[b]?=some o->σ b=some o)(s:St σ ι0 H0 (λ_=>none) W w'):∃q f,w'=grow (W.drewN q) f:=by have y:∀b o,W.heap[b]?=some o->w'.heap[b]?=some o:=λb o h=>s.sto b o (g b o h);(have j:W.heap.size<=w'.heap.size:=by rcases Nat.eq_zero_or_pos W.heap.size with h|h;omega;have:=y (W.heap.size-1) _ (Array.getElem?_eq_getElem ω);have:=(Array.getElem?_eq_some_iff.1 this).1;omega);refine⟨w'.drawn-W.drawn,w'.heap.extract W.heap.size w'.heap.size,?_⟩;(have c:w'.heap=W.heap++w'.heap.extract W.heap.size w'.heap.size:=by apply Array.ext_getElem?;intro i;by_cases hi:i<W.heap.size;rw[Array.getElem?_append_left hi,Array.getElem?_eq_getElem hi];exact y i _ (Array.getElem?_eq_getElem hi);rw[Array.getElem?_append_right ω];by_cases M:i<w'.heap.size;rw[Array.getElem?_eq_getElem M,Array.getElem?_eq_getElem ζ];simp only[Array.getElem_extract];congr 2;omega;rw[Array.getElem?_eq_none ω,Array.getElem?_eq_none ζ]);have A:=s.os;have B:=s.tape;have D:=s.output;have k:=s.drw;cases w' with|mk I L u os d=>simp only at A B D k c;unfold grow World.drewN;simp only[World.mk.injEq];exact⟨c,B,ω,A,D⟩
theorem Ata{ρ:Ren}{eA:α->AV}{E:TypeId}{sz f:Nat}(L:SlLaysF0.n6 prog ρ)(hf:ρ.f 6=f)(a6:Aau prog f)(aE:∀w,(isAgg (ρ.t 24)).run prog w=.ok true w)(zE:∀w,(Go.sizeOf (ρ.t 24)).run prog w=.ok sz w)(eg:∀args w,(callFunc g args).run prog w=.ok (.enter g args) w)(ar:∀x y n,cmp x y=some n->A5 prog g [eA x,eA y] (eo n))(ax:∀x,∃cs,eA x=.agg cs)(h:∃o,P9 cmp l o)(ah:l≠[]):Vb prog f [.arr 0 l.length 0 l.length,.fn g []] [.rows E sz (l.map eA)] (λa b6=>∃o,P9 cmp l o/\a=.tup []/\b6=[.rows E sz (o.map eA)]):=by
 obtain⟨_,cf,a4,au,_⟩:=h;refine⟨a6,λσ F W w ι vs s aq=>?_⟩;obtain⟨v,v2,rfl,B,b3⟩:=Amv aq;obtain rfl:=A43 b3;have hh:hp [.rows E sz (l.map eA)] 0=.rows E sz (l.map eA):=rfl;have M:=B.arr_inv hh ψ;have a3:=s.obj 0;unfold Dk at a3;rw[hh]at a3;obtain⟨R,aj,a3⟩:=a3;rw[length_map]at aj;(rcases a3 with⟨_,af⟩|⟨b,a5,D,hb,g1,g2,g3,g4,g5,g6⟩);exact(ah (by simpa using af)).elim;rw[length_map]at g5;unfold Ia at M;rw[hb]at M;simp only[Nat.zero_mul,Nat.sub_zero]at M;obtain⟨ht,aa⟩:=M;subst aa;obtain⟨gg,q1,q2,q3⟩:=g6;(have a8:∀(i:Nat)(x:α),l[i]?=some x->(l.map eA)[i]?=some (eA x):=λi x hx=>by rw[getElem?_map,hx];rfl);(have Z:∀(i:Nat)(hi:i<l.length),As9 σ eA sz l l[i] ((range sz).map (gg i)):=by intro i hi;have hx:l[i]?=some l[i]:=getElem?_eq_getElem hi;refine⟨getElem_mem hi,q1 i _ (a8 i _ hx),ψ,λj a v ha B=>?_⟩;rw[getElem?_map,Option.map_eq_some_iff]at B;obtain⟨k,hk,rfl⟩:=B;have b8:k=j:=(by have:=(List.getElem?_eq_some_iff.1 hk).2;simpa using this.symm);subst b8;exact q2 i _ k a (a8 i _ hx) ha);have a9:0<l.length:=length_pos_iff.2 ah;let d:Array (Qs σ eA sz l):=Array.ofFn λi:Fin l.length=>⟨(l[i.1],(range sz).map (gg i.1)),Z i.1 i.2⟩;haveI:Inhabited (Qs σ eA sz l):=⟨⟨(l[0],(range sz).map (gg 0)),Z 0 a9⟩⟩;(have A:d.size=l.length:=by simp[d]);(have ba:∀i(hi:i<l.length),d[i]! = ⟨(l[i],(range sz).map (gg i)),Z i hi⟩:=λi hi=>by rw[getElem!_pos d i (by rw[A];exact hi)];simp[d]);let a2:Qs σ eA sz l->Λ Value:=λp=>p.1.2;have hk:∀x:Qs σ eA sz l,(a2 x).length=sz:=λx=>x.2.2.2.1;(have h1:∀x:Qs σ eA sz l,∀v∈a2 x,v.oneCell'=true:=by intro x v B;obtain⟨j,hj⟩:=getElem?_of_mem B;have q:=(List.getElem?_eq_some_iff.1 hj).1;rw[hk x]at q;have ha:(eA x.1.1).cells[j]?=some ((eA x.1.1).cells[j]'(by rw[x.2.2.1];exact q)):=getElem?_eq_getElem _;exact A42 (x.2.2.2.2 j _ v ha hj).2);let a7:Qs σ eA sz l->Qs σ eA sz l->Int:=λx y=>cf x.1.1 y.1.1;(have hO:SWO (ltOf a7):=by constructor;intro x;exact decide_eq_false (a4.irr x.1.1);intro x y z V U;exact decide_eq_true (a4.trs _ _ _ (of_decide_eq_true V) (of_decide_eq_true U));intro x y z V U;exact decide_eq_false (a4.ntr _ _ _ (of_decide_eq_false V) (of_decide_eq_false U)));have hH:HoldsK a2 sz w b 0 d:=by intro t X;rw[size_flatK,A]at X;have ac:t/sz<l.length:=Nat.div_lt_of_lt_mul (by rw[Nat.mul_comm];exact X);have ab:t%sz<sz:=Nat.mod_lt _ R;rw[get_flatK _ _ _ _ (by rw[A];exact X),ba _ ac];have e:=q3 (t/sz) (t%sz) (by rw[length_map];exact ac) ab;rw[show t/sz*sz+t%sz=t by rw[Nat.mul_comm];exact Nat.div_add_mod t sz]at e;refine⟨?_,?_⟩;rw[Nat.zero_add,L9 g3,e];show some _=some (id _);congr 1;show gg _ _=((range sz).map (gg (t/sz)))[t%sz]!;rw[getElem!_pos _ _ (by simpa using ab)];simp;simp[World.frozen?,g3]
 have b0:b<w.heap.size:=(Array.getElem?_eq_some_iff.1 g3).1;have hC:CmpLays prog g #[] a2 sz a7 b 0 d.size w:=by
  intro m os dk hs x y;generalize az:sortWorldK a2 sz w b 0 m dk os=N;have am:∀b' o,σ b'=some o->N.heap[b']?=some o:=(by intro b' o ho;have ag:b≠b':=(by rintro rfl;rw[g1]at ho;cases ho);have e:=s.sto b' o ho;have q:=(Array.getElem?_eq_some_iff.1 e).1;rw[<-az];show((w.heap.modify b _)++os)[b']?=_;rw[Array.getElem?_append_left (by simpa using q),Array.getElem?_modify,if_neg ag];exact e);have ao:=au x.1.1 x.2.1 y.1.1 y.2.1;have hp:=ar _ _ _ ao;have s1:St (λb=>N.heap[b]?) ι0 H0 (λ_=>none) N N:=⟨λ_ _ e=>e,(λ_ _ e=>by cases e),λ_=>rfl,(λ_ _ _ hl=>by cases hl),rfl,rfl,rfl,s.glo.mono am,Nat.le_refl _⟩;have av:∀z:Qs σ eA sz l,Conc (λb=>N.heap[b]?) ι0 H0 (eA z.1.1) (.agg (a2 z).toArray):=by
   intro z;obtain⟨cs,ap⟩:=ax z.1.1;have G:(eA z.1.1).cells=cs:=(by rw[ap];rfl);rw[ap];refine .cc (.agg _ _ ?_ λi c v hc B=>?_)
   .rw[<-G,z.2.2.1];simp[hk z]
   .rw[<-G]at hc;exact(z.2.2.2.2 i c v hc (by simpa using B)).1.mono am
  refine(hp.2 (λb=>N.heap[b]?) (λ_=>none) N N _ s1 ⟨rfl,?_⟩).mono ?_
  .intro i a v ha B
   match i,ha,B with|0,ha,B=>cases ha;cases B;exact av x|1,ha,B=>cases ha;cases B;exact av y|n+2,ha,B=>simp at ha
  .rintro e w' ⟨v,σ',rfl,ak,b4,hc⟩;refine⟨?_,?_⟩
   .cases hc with|cc h=>cases h;rfl
   .exact A44 (σ:=σ') (λb o ho=>ak b o ho) b4
 have call:=AnyQ.slices_SortFunc L sz aE zE a2 hk h1 a7 hO g #[] b 0 a5 d w eg hC hH b0 (by rw[A];omega);rw[hf,A]at call;refine call.mono ?_;rintro e w' ⟨rfl,u,n,os,b7,b5,rfl⟩;obtain⟨p1,p2,p3⟩:=b7;(have J:u.size=l.length:=by rw[p1,A]);(have I:∀(a:Array (Qs σ eA sz l)),a.size=l.length->(a.extract 0 l.length).toList=a.toList:=λa ha=>by rw[<-ha];simp);rw[I u J,I d A]at p3;(have ai:d.toList.map (λp=>p.1.1)=l:=by apply ext_getElem;simp[A];intro i bf be;simp[d]);(have Y:(u.toList.map λp=>p.1.1).Perm l:=by have:=p3.map λp:Qs σ eA sz l=>p.1.1;rwa [ai]at this);(have hS:(u.toList.map λp=>p.1.1).Pairwise λx y=>¬cf y x<0:=by rw[pairwise_iff_getElem];intro i j hi hj b9;simp only[length_map,Array.length_toList]at hi hj;have:=b5 i j (Nat.zero_le _) b9 ω;rw[getElem!_pos u i hi,getElem!_pos u j hj]at this;have:=of_decide_eq_false this;simpa only[getElem_map,Array.getElem_toList]using this);obtain⟨r,S⟩:∃r,u.toList.map (λp=>p.1.1)=r:=⟨_,rfl⟩;rw[S]at Y hS;have ae:r.length=l.length:=Y.length_eq;(have bb:(flatK a2 sz u).size=l.length*sz:=by rw[size_flatK,J]);(have ay:(Sort.putCells id 0 (flatK a2 sz u) D).size=a5*sz:=by unfold Sort.putCells;rw[Array.size_mapIdx];exact g4);(have ad:∀(i:Nat)(x:α),r[i]?=some x->i<u.size/\(u[i]!).1.1=x:=by intro i x hx;rw[<-S,getElem?_map,Option.map_eq_some_iff]at hx;obtain⟨p,hp,rfl⟩:=hx;have q:=(List.getElem?_eq_some_iff.1 hp).1;simp only[Array.length_toList]at q;refine⟨q,?_⟩;rw[getElem!_pos u i q];have:=(List.getElem?_eq_some_iff.1 hp).2;simp only[Array.getElem_toList]at this;rw[this]);obtain⟨s',le⟩:=s.setRows 0 E sz _ (r.map eA) hh b a5 hb (by simp[ae]) (Sort.putCells id 0 (flatK a2 sz u) D) ay (by refine⟨λi j=>(a2 u[i]!)[j]!,?_,?_,?_⟩;intro i x hx;rw[getElem?_map]at hx;obtain⟨z,hz,rfl⟩:=Option.map_eq_some_iff.1 hx;obtain⟨e1,e2⟩:=ad i z hz;rw[<-e2];exact(u[i]!).2.2.1;intro i x j c hx a1;rw[getElem?_map]at hx;obtain⟨z,hz,rfl⟩:=Option.map_eq_some_iff.1 hx;obtain⟨e1,e2⟩:=ad i z hz;rw[<-e2]at a1;have q:=(List.getElem?_eq_some_iff.1 a1).1;rw[(u[i]!).2.2.1,<-(u[i]!).2.2.2.1]at q;have hg:(u[i]!).1.2[j]?=some ((a2 u[i]!)[j]!):=(by rw[getElem?_eq_getElem q,getElem!_pos (a2 u[i]!) j q]);exact(u[i]!).2.2.2.2 j c _ a1 hg;intro i j hi hj;rw[length_map,ae]at hi;have q:i*sz+j<l.length*sz:=(by have:=Nat.mul_le_mul_right sz (show i+1<=l.length from hi);rw[Nat.add_mul,Nat.one_mul]at this;omega);have hD:i*sz+j<D.size:=(by rw[g4];exact Nat.lt_of_lt_of_le q (Nat.mul_le_mul_right sz g5));unfold Sort.putCells;rw[Array.getElem?_mapIdx,Array.getElem?_eq_getElem hD];simp only[Option.map_some,Nat.zero_le,true_and,Nat.zero_add,bb,q,if_true,Nat.sub_zero];congr 1;show id ((flatK a2 sz u)[i*sz+j]!)=_;rw[get_flatK _ _ _ _ (by rw[J];exact q)];have e1:(i*sz+j)/sz=i:=(by rw[Nat.mul_comm,Nat.mul_add_div R,Nat.div_eq_of_lt hj,Nat.add_zero]);have e2:(i*sz+j)%sz=j:=(by rw[Nat.mul_comm,Nat.mul_add_mod,Nat.mod_eq_of_lt hj]);rw[e1,e2];rfl);(have eH:Be (hp [.rows E sz (l.map eA)]) 0 (.rows E sz (r.map eA))=hp [.rows E sz (r.map eA)]:=by funext i;match i with|0=>rfl|i+1=>rfl);rw[eH]at le s';(have eW:sortWorldK a2 sz w b 0 n u os=Sort.grow (Sort.ahead (w.setRow b (Sort.putCells id 0 (flatK a2 sz u) D)) n) os:=by unfold sortWorldK putRowK;rw[A41 id (Sort.ahead w n) b (flatK a2 sz u) D E g3];rfl);rw[eW];exact⟨_,_,_,σ,ι,⟨r,⟨cf,a4,au,Y,hS⟩,rfl,rfl⟩,rfl,le,s'.growG n os,.tup _ _ rfl (λi c v h1 _=>by cases h1)⟩
theorem Ri.only{o:Λ α}(h:Ri cmp l r)(h':P9 cmp l o):o=r:=by obtain⟨cf,d,g,b,k⟩:=h;obtain⟨z,B,f,hp,q⟩:=h';have e:∀x∈l,∀y∈l,z x y=cf x y:=λx hx y hy=>Option.some.inj ((f x hx y hy).symm.trans (g x hx y hy));have s:o.Pairwise λx y=>cf x y<0\/cf y x<0:=((hp.trans b.symm).pairwise_iff λ{x y} h=>h.symm).2 (k.imp λh=>.inl h);(have u:o.Pairwise λx y=>cf x y<0:=by rw[pairwise_iff_getElem]at s q⊢;intro i j hi A c;rcases s i j hi A c with h|h;exact h;have:=q i j hi A c;rw[e _ (hp.subset (getElem_mem A)) _ (hp.subset (getElem_mem hi))]at this;exact(this h).elim);exact Perm.eq_of_pairwise (le:=λx y=>cf x y<0) (λx y _ _ h1 h2=>(d.irr x (d.trs _ _ _ h1 h2)).elim) u k (hp.trans b.symm)
theorem Ri.toU(h:Ri cmp l r):P9 cmp l r:=by obtain⟨cf,d,c,b,f⟩:=h;exact⟨cf,d,c,b,f.imp λ{x y} h h2=>d.irr x (d.trs _ _ _ h h2)⟩
def A45:Ren:={f:=λx=>match x with|6=>59|15=>122|14=>121|28=>210|29=>211|20=>202|21=>203|22=>204|23=>205|24=>206|25=>207|26=>208|27=>209|46=>273|47=>274|48=>275|49=>276|50=>277|57=>308|n=>n,t:=λx=>match x with|22=>28|24=>53|25=>127|3=>3|39=>195|0=>0|53=>143|55=>142|4=>4|46=>263|45=>262|50=>124|5=>5|9=>9|66=>330|70=>151|76=>368|77=>369|n=>n,g:=λn=>n}
theorem A46:SlLaysF0.n6 prog A45:=by constructor;(case f6=>exact Exists.intro "slices.SortFunc[[]amortcost/api.Term,amortcost/api.Term]" ⟨κ,κ⟩);(case f14=>exact Exists.intro "slices.pdqsortCmpFunc[amortcost/api.Term]" ⟨κ,κ⟩);(case f20=>exact Exists.intro "slices.insertionSortCmpFunc[amortcost/api.Term]" ⟨κ,κ⟩);(case f21=>exact Exists.intro "slices.heapSortCmpFunc[amortcost/api.Term]" ⟨κ,κ⟩);(case f22=>exact Exists.intro "slices.breakPatternsCmpFunc[amortcost/api.Term]" ⟨κ,κ⟩);(case f23=>exact Exists.intro "slices.choosePivotCmpFunc[amortcost/api.Term]" ⟨κ,κ⟩);(case f24=>exact Exists.intro "slices.reverseRangeCmpFunc[amortcost/api.Term]" ⟨κ,κ⟩);(case f25=>exact Exists.intro "slices.partialInsertionSortCmpFunc[amortcost/api.Term]" ⟨κ,κ⟩);(case f26=>exact Exists.intro "slices.partitionEqualCmpFunc[amortcost/api.Term]" ⟨κ,κ⟩);(case f27=>exact Exists.intro "slices.partitionCmpFunc[amortcost/api.Term]" ⟨κ,κ⟩);(case f46=>exact Exists.intro "slices.siftDownCmpFunc[amortcost/api.Term]" ⟨κ,κ⟩);(case f49=>exact Exists.intro "slices.medianAdjacentCmpFunc[amortcost/api.Term]" ⟨κ,κ⟩);(case f50=>exact Exists.intro "slices.medianCmpFunc[amortcost/api.Term]" ⟨κ,κ⟩);(case f57=>exact Exists.intro "slices.order2CmpFunc[amortcost/api.Term]" ⟨κ,κ⟩);all_goals first|kernel_rfl|(intro w;kernel_rfl)
theorem A47{eA:α->AV}(k:∀args w,(callFunc g args).run prog w=.ok (.enter g args) w)(c:∀x y n,cmp x y=some n->A5 prog g [eA x,eA y] (eo n))(f:∀x,∃cs,eA x=.agg cs)(h:∃o,P9 cmp b o)(j:b≠[]):Vb prog 59 [.arr 0 b.length 0 b.length,.fn g []] [.rows 53 5 (b.map eA)] (λa i=>∃o,P9 cmp b o/\a=.tup []/\i=[.rows 53 5 (o.map eA)]):=Ata A46 rfl ⟨_,func59,κ,κ⟩ (by intro w;kernel_rfl) (by intro w;kernel_rfl) k c f h j
theorem A48{eA:α->AV}(j:∀args w,(callFunc g args).run prog w=.ok (.enter g args) w)(b:∀x y n,cmp x y=some n->A5 prog g [eA x,eA y] (eo n))(c:∀x,∃cs,eA x=.agg cs){f:Λ α}(h:S6 cmp f=some r)(i:f≠[]):B6 prog 59 [.arr 0 f.length 0 f.length,.fn g []] [.rows 53 5 (f.map eA)] (.tup []) [.rows 53 5 (r.map eA)]:=((A47 j b c ⟨r,(Agc h).toU⟩ i).one λ_ _ ⟨o,d,k,q⟩=>⟨k,by rw[q,(Agc h).only d]⟩)
def A49:Ren:={f:=λx=>match x with|6=>262|15=>122|14=>301|28=>210|29=>211|20=>333|21=>334|22=>335|23=>336|24=>337|25=>338|26=>339|27=>340|46=>347|47=>274|48=>275|49=>348|50=>349|57=>353|n=>n,t:=λx=>match x with|22=>99|24=>103|25=>320|3=>3|39=>195|0=>0|53=>143|55=>142|4=>4|46=>263|45=>262|50=>124|5=>5|9=>9|66=>330|70=>151|76=>368|77=>369|n=>n,g:=λn=>n}
theorem A5a:SlLaysF0.n6 prog A49:=by constructor;(case f6=>exact Exists.intro "slices.SortFunc[[]amortcost/api.Weighted,amortcost/api.Weighted]" ⟨κ,κ⟩);(case f14=>exact Exists.intro "slices.pdqsortCmpFunc[amortcost/api.Weighted]" ⟨κ,κ⟩);(case f20=>exact Exists.intro "slices.insertionSortCmpFunc[amortcost/api.Weighted]" ⟨κ,κ⟩);(case f21=>exact Exists.intro "slices.heapSortCmpFunc[amortcost/api.Weighted]" ⟨κ,κ⟩);(case f22=>exact Exists.intro "slices.breakPatternsCmpFunc[amortcost/api.Weighted]" ⟨κ,κ⟩);(case f23=>exact Exists.intro "slices.choosePivotCmpFunc[amortcost/api.Weighted]" ⟨κ,κ⟩);(case f24=>exact Exists.intro "slices.reverseRangeCmpFunc[amortcost/api.Weighted]" ⟨κ,κ⟩);(case f25=>exact Exists.intro "slices.partialInsertionSortCmpFunc[amortcost/api.Weighted]" ⟨κ,κ⟩);(case f26=>exact Exists.intro "slices.partitionEqualCmpFunc[amortcost/api.Weighted]" ⟨κ,κ⟩);(case f27=>exact Exists.intro "slices.partitionCmpFunc[amortcost/api.Weighted]" ⟨κ,κ⟩);(case f46=>exact Exists.intro "slices.siftDownCmpFunc[amortcost/api.Weighted]" ⟨κ,κ⟩);(case f49=>exact Exists.intro "slices.medianAdjacentCmpFunc[amortcost/api.Weighted]" ⟨κ,κ⟩);(case f50=>exact Exists.intro "slices.medianCmpFunc[amortcost/api.Weighted]" ⟨κ,κ⟩);(case f57=>exact Exists.intro "slices.order2CmpFunc[amortcost/api.Weighted]" ⟨κ,κ⟩);all_goals first|kernel_rfl|(intro w;kernel_rfl)
theorem A5b{eA:α->AV}(k:∀args w,(callFunc g args).run prog w=.ok (.enter g args) w)(c:∀x y n,cmp x y=some n->A5 prog g [eA x,eA y] (eo n))(f:∀x,∃cs,eA x=.agg cs)(h:∃o,P9 cmp b o)(j:b≠[]):Vb prog 262 [.arr 0 b.length 0 b.length,.fn g []] [.rows 103 5 (b.map eA)] (λa i=>∃o,P9 cmp b o/\a=.tup []/\i=[.rows 103 5 (o.map eA)]):=Ata A5a rfl ⟨_,func262,κ,κ⟩ (by intro w;kernel_rfl) (by intro w;kernel_rfl) k c f h j
theorem A5c{eA:α->AV}(j:∀args w,(callFunc g args).run prog w=.ok (.enter g args) w)(b:∀x y n,cmp x y=some n->A5 prog g [eA x,eA y] (eo n))(c:∀x,∃cs,eA x=.agg cs){f:Λ α}(h:S6 cmp f=some r)(i:f≠[]):B6 prog 262 [.arr 0 f.length 0 f.length,.fn g []] [.rows 103 5 (f.map eA)] (.tup []) [.rows 103 5 (r.map eA)]:=((A5b j b c ⟨r,(Agc h).toU⟩ i).one λ_ _ ⟨o,d,k,q⟩=>⟨k,by rw[q,(Agc h).only d]⟩)
end Go.Ab
namespace Go.Ab
open Go Go.Proofs Go.Shelf Go.Proofs.Tryz
set_option maxRecDepth 100000
set_option linter.unusedVariables false
variable{n:Int}{α:Type}{r:Λ α}
theorem Afi{σ:Bb}{ι:Ck}{H:Hp}{u v:Value}(h:Conc σ ι H (.val u) v):v=u:=by cases h with|cc h=>cases h;rfl
theorem Ahl{ρ:Ren}{eA:α->AV}{E:TypeId}{sz f:Nat}(L:Lays8.n4 prog ρ)(hf:ρ.f 4=f)(g:Aau prog f)(l:TypeInfo)(z:Value)(G:prog.info? (ρ.t 25)=some l)(D:l.zero=some z)(S:ρ.t 25=E)(R:l.size=sz)(B:z.cells.size=sz)(q:0<sz)(I:l.bytes<=1000)(h:N5 n=some r):B6 prog f [.val (.slice none 0 0),eo n] [] (.arr 0 r.length 0 r.length) [.rows E sz (r.map eA)]:=by(have hr:r=[]/\0<=n/\n<=1000000:=by unfold N5 at h;by_cases h1:0<=n;by_cases h2:n<=1000000;rw[decide_eq_true h1,decide_eq_true h2]at h;have h:some ([]:Λ α)=some r:=h;cases h;exact⟨rfl,h1,h2⟩;rw[decide_eq_false h2,Bool.and_false]at h;cases h;rw[decide_eq_false h1,Bool.false_and]at h;cases h);obtain⟨rfl,Y,X⟩:=hr;obtain⟨m,rfl⟩:∃m:Nat,n=m:=⟨n.toNat,ω⟩;refine⟨g,λσ F W w ι vs s y=>?_⟩;obtain⟨v,u,rfl,N,hu⟩:=Amv y;obtain rfl:=Afi N;obtain rfl:=Afi hu;have hn:hp [] 0=.none:=rfl;(have M:Be (hp []) 0 (.rows E sz [])=hp [.rows E sz []]:=by funext i;match i with|0=>rfl|i+1=>rfl);by_cases h0:m=0;subst h0;have call:=Any8.slices_Grow_room L none 0 0 0 w (Nat.le_refl _) δ δ δ;rw[hf]at call;refine call.mono ?_;rintro e w' ⟨rfl,rfl⟩;obtain⟨s',le⟩:=s.newNil 0 hn E sz q;rw[M]at s' le;refine⟨_,σ,_,rfl,le,s',.arr 0 0 0 0 _ (by intro e;cases e) (λV A xs e=>?_) rfl⟩;cases e;refine⟨Nat.le_refl _,λ_=>?_⟩;unfold Ia;rw[Cz];exact⟨rfl,rfl,rfl⟩;have hb:(0+m)*l.bytes<=140737488355328:=(by have:=Nat.mul_le_mul (show 0+m<=1000000 by omega) I;omega);have call:=Any8.slices_Grow_grow L l z G D ω none 0 0 m [] w (Nat.le_refl _) ω hb ω ψ (λ_=>rfl) (λa h=>by cases h);rw[hf,S]at call;refine call.mono ?_;rintro e w' ⟨rfl,rfl⟩;have a1:=Afc w (0+m) 0 E;generalize grownCap w (0+m) 0 E=d at a1;have b:∀k,(Builtin.zeroCells z.cells k).size=k*sz:=(by intro k;simp[Builtin.zeroCells,B]);generalize U:(([]:Λ Value).toArray++Builtin.zeroCells z.cells (0+m-0)++Builtin.zeroCells z.cells (d-(0+m)))=C;have J:C.size=d*sz:=(by rw[<-U,Array.size_append,Array.size_append,b,b];simp only[size_toArray,length_nil,Nat.zero_add,Nat.sub_zero,<-Nat.add_mul];congr 1;omega);obtain⟨s',le⟩:=(s.drew (w.drawn+1)).newRows 0 E sz [] d C (.inl hn) q ψ ψ J ⟨λ_ _=>.bool false,(by intro i x h;simp at h),(by intro i x j c h;simp at h),(by intro i j h;simp at h)⟩;rw[M]at s' le;refine⟨_,σ,_,rfl,le,s',.arr 0 0 0 0 _ (by intro e;cases e) (λV A xs e=>?_) rfl⟩;cases e;refine⟨Nat.le_refl _,λ_=>?_⟩;unfold Ia;rw[Cz];exact⟨Nat.zero_le _,ψ⟩
def A5d:Ren:={f:=λx=>match x with|4=>116|n=>n,t:=λx=>match x with|22=>48|25=>96|3=>3|4=>4|9=>9|20=>20|0=>0|n=>n,g:=λn=>n}
theorem A5e:Lays8.n4 prog A5d:=by constructor;(case f4=>exact Exists.intro "slices.Grow[[]amortcost/api.Factor,amortcost/api.Factor]" ⟨κ,κ⟩);all_goals first|kernel_rfl|(intro w;kernel_rfl)
theorem A5f{eA:α->AV}(h:N5 n=some r):B6 prog 116 [.val (.slice none 0 0),eo n] [] (.arr 0 r.length 0 r.length) [.rows 96 3 (r.map eA)]:=Ahl A5e rfl ⟨_,func116,κ,κ⟩ t96 (t96.zero.getD .nilFunc) κ κ rfl κ κ δ (of_decide_eq_true κ) h
def A5g:Ren:={f:=λx=>match x with|4=>117|n=>n,t:=λx=>match x with|22=>49|25=>108|3=>3|4=>4|9=>9|20=>20|0=>0|n=>n,g:=λn=>n}
theorem A5h:Lays8.n4 prog A5g:=by constructor;(case f4=>exact Exists.intro "slices.Grow[[]amortcost/api.Atom,amortcost/api.Atom]" ⟨κ,κ⟩);all_goals first|kernel_rfl|(intro w;kernel_rfl)
theorem A5i{eA:α->AV}(h:N5 n=some r):B6 prog 117 [.val (.slice none 0 0),eo n] [] (.arr 0 r.length 0 r.length) [.rows 108 3 (r.map eA)]:=Ahl A5h rfl ⟨_,func117,κ,κ⟩ t108 (t108.zero.getD .nilFunc) κ κ rfl κ κ δ (of_decide_eq_true κ) h
def A5j:Ren:={f:=λx=>match x with|4=>302|n=>n,t:=λx=>match x with|22=>99|25=>103|3=>3|4=>4|9=>9|20=>20|0=>0|n=>n,g:=λn=>n}
theorem A5k:Lays8.n4 prog A5j:=by constructor;(case f4=>exact Exists.intro "slices.Grow[[]amortcost/api.Weighted,amortcost/api.Weighted]" ⟨κ,κ⟩);all_goals first|kernel_rfl|(intro w;kernel_rfl)
theorem A5l{eA:α->AV}(h:N5 n=some r):B6 prog 302 [.val (.slice none 0 0),eo n] [] (.arr 0 r.length 0 r.length) [.rows 103 5 (r.map eA)]:=Ahl A5k rfl ⟨_,func302,κ,κ⟩ t103 (t103.zero.getD .nilFunc) κ κ rfl κ κ δ (of_decide_eq_true κ) h
def A5m:Ren:={f:=λx=>match x with|4=>332|n=>n,t:=λx=>match x with|22=>92|25=>94|3=>3|4=>4|9=>9|20=>20|0=>0|n=>n,g:=λn=>n}
theorem A5n:Lays8.n4 prog A5m:=by constructor;(case f4=>exact Exists.intro "slices.Grow[[]amortcost/api.Index,amortcost/api.Index]" ⟨κ,κ⟩);all_goals first|kernel_rfl|(intro w;kernel_rfl)
theorem A5o{eA:α->AV}(h:N5 n=some r):B6 prog 332 [.val (.slice none 0 0),eo n] [] (.arr 0 r.length 0 r.length) [.rows 94 2 (r.map eA)]:=Ahl A5n rfl ⟨_,func332,κ,κ⟩ t94 (t94.zero.getD .nilFunc) κ κ rfl κ κ δ (of_decide_eq_true κ) h
end Go.Ab
