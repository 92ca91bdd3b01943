/- What is proved: amortcostlaw20.PolyMonomials returns true and leaves its arguments as they were, for all arguments of bulk at most 1048576; the package-level variables that its row lists hold what the program's text lays (tied). -/
import Derived.Test.YtdifpebphbblaaaGreatDoorMnV3
import Derived.Test.YtdifpebphbblaaaGreatDoorMnFact
import Derived.Test.YtdifpebphbblaaaGreatDoorMnGoes
import Derived.Test.YtdifpebphbblaaaGreatDoorMnPl4
namespace Go.Proofs.YtdifpebphbblaaaGreatDoor.polyMonomials
open Go Go.Ab Go.ChangeShapes Go.WideShapes Go.ChangeAt Go.RowKit
theorem own:ownKnob Tryz.prog.godebug=none:=by kernel_rfl
theorem laidOut:laidOutB Tryz.prog=true:=by kernel_rfl
set_option maxRecDepth 100000 in
theorem contract (H:Type) (enc:TypeId×Value->H) (W:World) (base:Nat) (args:Array Value) (ds gs:List (DataW H)) (before:List MemPlace) (hval:∀(j:Nat) t v,Tryz.f3.params[j]? = some t->args[j]? = some v->Value.okWide Tryz.prog W .any base t v) (hW:DataW.Whole enc Tryz.prog Tryz.f3.params.toList Rows.polyMonomialsSpec.vars false W args.toList ds gs before) (hk:Rows.uptoSmall H (ds++gs)=true) (hL:laidMetH Tryz.prog Rows.polyMonomialsRow.laid W) : Calls Tryz.prog 3 args W fun e W'=>∃v,e = .returned v/\Rows.polyMonomialsSpec.post enc Tryz.prog Tryz.f3 false true false false W args v W':=by
 have hW':=hW;obtain ⟨p,q,hA0,hV,rfl,hfz,hnd⟩:=hW;have hA:DataW.TrodAll enc Tryz.prog W 0 (λ_=>true) true Tryz.f3.params.toList args.toList ds p:=hA0;rw [Tryz.params3] at hA hval;obtain ⟨v0,vs0,d0,ds0,p0,q0,hargs,rfl,rfl,h0,r0⟩:=trodAll_cons hA;obtain ⟨v1,vs1,d1,ds1,p1,q1,rfl,rfl,rfl,h1,r1⟩:=trodAll_cons r0;obtain ⟨v2,vs2,d2,ds2,p2,q2,rfl,rfl,rfl,h2,r2⟩:=trodAll_cons r1;obtain ⟨v3,vs3,d3,ds3,p3,q3,rfl,rfl,rfl,h3,r3⟩:=trodAll_cons r2;obtain ⟨rfl,rfl,rfl⟩:=trodAll_nil r3;obtain rfl:args = #[v0,v1,v2,v3]:=by cases args; simp_all
 obtain ⟨rfl,rfl⟩:=trodVars_none hV;have hb:Rows.uptoBulkAll [d0,d1,d2,d3]<=1048576:=by have:=of_decide_eq_true hk;simpa only [List.append_nil] using this
 simp only [Rows.uptoBulkAll] at hb;obtain ⟨x0,c0,r0⟩:=A0v Tryz.underlying27 (hval 0 _ v0 rfl rfl) h0 ω A0o;obtain ⟨x1,c1,r1⟩:=Agu (g:=fun l:List Int=>.sl 1 (l.map (Aa .i64))) (Apw Tryz.underlying28 (hval 1 _ v1 rfl rfl)) h1 ω A0s;obtain ⟨x2,c2,r2⟩:=Agu (g:=fun l:List Cm=>.sl 2 (l.map Ha)) (Apw Tryz.underlying29 (hval 2 _ v2 rfl rfl)) h2 ω A0r;obtain ⟨x3,c3,r3⟩:=Agu (g:=fun a:Int=>Aa .i64 a) (A0w Tryz.underlying3 (hval 3 _ v3 rfl rfl)) h3 ω (λn=>Pc .i64 n Tryz.underlying3);have law:=A0i x0 x1 x2 x3 (r0 ω) (λf hf=>by have:=r2.2 f hf; omega);have law2:=OK.ok law;have law3:A4 Tryz.prog 3 _ _:=law2;refine (law3.2 (Ly W) (λ_=>none) W W #[v0,v1,v2,v3] (Go.Ab.Acu (A0t hL)) ⟨rfl,?_⟩).mono ?_
 .intro i a v ha hv
  match i,ha,hv with| 0,ha,hv=>cases ha; cases hv; exact .cc c0| 1,ha,hv=>cases ha; cases hv; exact .cc c1| 2,ha,hv=>cases ha; cases hv; exact .cc c2| 3,ha,hv=>cases ha; cases hv; exact .cc c3| n+4,ha,hv=>cases ha
 .rintro e W' ⟨v,σ',rfl,hle,hst,hc⟩;have hv:v = .bool true:=(by cases hc with | cc h=>cases h; rfl);subst hv;exact ⟨_,rfl,A0x laidOut rfl hW' (by kernel_rfl) ⟨rfl,rfl,rfl⟩ (by kernel_rfl) Tryz.underlying4 (λb o h=>hst.sto b o (hle b o h)) hst.os hst.output⟩
def put (vs:Array Value):Obj->Obj
 | .cells _ t frozen=>.cells vs t frozen
 | o=>o
def tab32:List Int:=[0,1,28,2,29,14,24,3,30,22,20,15,25,17,4,8,31,27,13,23,21,19,16,7,26,12,18,6,11,5,10,9]
def tab64:List Int:=[0,1,56,2,57,49,28,3,61,58,42,50,38,29,17,4,62,47,59,36,45,43,51,22,53,39,33,30,24,18,12,5,63,55,48,27,60,41,37,16,46,35,44,21,52,32,23,11,54,26,40,15,34,20,31,10,25,14,19,9,13,8,7,6]
def laidHeap (h:Array Obj):Array Obj := ((h.modify 1 (put (tab32.map fun n=>Value.int .u8 n).toArray)).modify 2 (put (tab64.map fun n=>Value.int .u8 n).toArray)).modify 0 (put (Lib.pow10Tab.map fun n=>Value.int .u64 n).toArray)
noncomputable def laidWorld (os:Os):World := {World.holding Tryz.prog os ⟨#[],#[],[]⟩ with heap:=laidHeap (World.holding Tryz.prog os ⟨#[],#[],[]⟩).heap}
def args0:Array Value:=#[.agg #[.slice none 0 0,.slice none 0 0,.int .i64 0,.int .i64 0,.slice none 0 0],.slice none 0 0,.slice none 0 0,.int .i64 0]
theorem laid_met (os:Os):laidMet Tryz.prog Rows.polyMonomialsRow.laid ((laidWorld os).forCall (λ_ _=>0) ⟨#[],args0,[]⟩).memory := laidMet_of_run' 8 (by kernel_rfl) (by kernel_rfl)
theorem reads (os:Os) {H:Type} (enc:TypeId×Value->H):∃places,DataW.whole enc Tryz.prog ((laidWorld os).forCall (λ_ _=>0) ⟨#[],args0,[]⟩).memory Tryz.f3.params.toList Rows.polyMonomialsSpec.vars false args0.toList 8 = some ([.agg [.nil,.nil,.agg [.lit (.int .i64 0),.lit (.int .i64 0),.nil]],.nil,.nil,.lit (.int .i64 0)],[],places) := ⟨[],by kernel_rfl⟩
set_option maxRecDepth 100000 in
theorem lifted (os:Os) (started:os.Started) (H:Type) (enc:TypeId×Value->H) (F:Stop.Interp) : ReturnsInHanded {} Tryz.checked os 3 .any ((Rows.OpenSpec.upto Rows.polyMonomialsSpec).preRow enc Tryz.prog Tryz.f3 Rows.polyMonomialsUptoRow.domain false Rows.polyMonomialsUptoRow.laid) (((Rows.OpenSpec.upto Rows.polyMonomialsSpec).at F).post enc Tryz.prog Tryz.f3 false true false false):=by obtain ⟨places,hx⟩:=reads os enc;refine returnsInHanded_of_row (C:=Tryz.checked) (s:=Rows.OpenSpec.upto Rows.polyMonomialsSpec) own started (by kernel_rfl) Tryz.func3 (witness_row_at (enc:=enc) (C:=Tryz.checked) false (laidWorld os) args0 rfl (by kernel_rfl) (by kernel_rfl) (by kernel_rfl) (OpenSpec.preRow_of_cond 8 hx (by kernel_rfl) (λk hk=>by cases hk; kernel_rfl) (by kernel_rfl) (laid_met os))) ?_;intro W base args ds gs before hval hW _ hk _ hL _ _;exact contract H enc W base args ds gs before hval hW (hk _ rfl) hL
theorem said:Rows.PolyMonomialsUptoSaid := OpenClaim.holds_of_cond 3 Tryz.f3 rfl rfl rfl rfl rfl rfl rfl ⟨rfl,rfl,rfl,rfl,rfl⟩ rfl rfl rfl rfl rfl (by as_aux_lemma=>kernel_rfl) Tryz.func3 closed (of_decide_eq_true (by kernel_rfl)) (by unfold Func.isWrapper; first | (rw [if_pos (by decide +kernel)]; kernel_rfl) | (rw [if_neg (by decide +kernel)]; exact ⟨rfl,rfl⟩)) (λos started H enc _ F=>by rw [OpenClaim.pre_eq_preRow]; exact lifted os started H enc F)
theorem plain (f:FuncId) (fn:Func) (hf:Tryz.pinned.checked.prog.funcNamed "amortcost/amortcostlaw20.PolyMonomials" = some f) (hfn:Tryz.pinned.checked.prog.funcs[f]? = some fn) : false=Tryz.pinned.checked.prog.looks []/\∀(j:Nat) t,fn.params[j]? = some t->Tryz.pinned.checked.prog.wantsStandIn t=false:=by
 obtain rfl:f=3:=Option.some.inj ((show Tryz.prog.funcNamed "amortcost/amortcostlaw20.PolyMonomials" = some 3 by kernel_rfl).symm.trans hf) |>.symm;obtain rfl:fn=Tryz.f3:=(Option.some.inj (Tryz.func3.symm.trans hfn)).symm;refine ⟨by kernel_rfl,fun j t ht=>?_⟩;rw [Tryz.params3] at ht;have hall:(#[27,28,29,3].all fun t=>!Tryz.prog.wantsStandIn t)=true:=by kernel_rfl
 have:=Array.all_eq_true_iff_forall_mem.1 hall t (Array.mem_of_getElem? ht);simp only [Bool.not_eq_true'] at this;exact this
theorem card:Rows.PolyMonomialsUptoCardSaid := Claim7.holds_tied_plain_at .later [] _ _ _ _ said (λ_ h=>by cases h) (by kernel_rfl) (λ_ h=>by cases h) polyMonomialsUpto_row_tie rfl ⟨rfl,rfl⟩ (by kernel_rfl) rfl plain goes
end Go.Proofs.YtdifpebphbblaaaGreatDoor.polyMonomials
#print axioms Go.Proofs.YtdifpebphbblaaaGreatDoor.polyMonomials.card
