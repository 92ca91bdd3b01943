/- Closed facts. -/
import Derived.Test.YthfkffcjnfocdaaGreatDoorUfRd
namespace Go.Proofs.YthfkffcjnfocdaaGreatDoor.polyUnfolded
open Go
set_option maxRecDepth 100000
set_option maxHeartbeats 40000000
theorem closed:joinedFacts Tryz.pinned.checked.prog 3 Tryz.f3 (Rows.OpenSpec.upto Rows.polyUnfoldedSpec).bare Rows.polyUnfoldedUptoRow=true:=by unfold joinedFacts;simp only [Bool.and_eq_true];and_intros;all_goals as_aux_lemma=>kernel_rfl
end Go.Proofs.YthfkffcjnfocdaaGreatDoor.polyUnfolded
