/- Closed facts. -/
import Derived.Test.YtdifpebphbblaaaGreatDoorMnRd
namespace Go.Proofs.YtdifpebphbblaaaGreatDoor.polyMonomials
open Go
set_option maxRecDepth 100000
set_option maxHeartbeats 40000000
theorem closed:joinedFacts Tryz.pinned.checked.prog 3 Tryz.f3 (Rows.OpenSpec.upto Rows.polyMonomialsSpec).bare Rows.polyMonomialsUptoRow=true:=by unfold joinedFacts;simp only [Bool.and_eq_true];and_intros;all_goals as_aux_lemma=>kernel_rfl
end Go.Proofs.YtdifpebphbblaaaGreatDoor.polyMonomials
