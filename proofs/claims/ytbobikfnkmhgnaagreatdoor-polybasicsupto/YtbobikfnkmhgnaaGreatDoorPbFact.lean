/- The closed facts of the row. -/
import Derived.Test.YtbobikfnkmhgnaaGreatDoorPbRd
namespace Go.Proofs.YtbobikfnkmhgnaaGreatDoor.polyBasics
open Go
set_option maxRecDepth 100000
set_option maxHeartbeats 40000000
theorem closed:joinedFacts Tryz.pinned.checked.prog 4 Tryz.f4 (Rows.OpenSpec.upto Rows.polyBasicsSpec).bare Rows.polyBasicsUptoRow=true:=by
 unfold joinedFacts
 simp only [Bool.and_eq_true]
 and_intros
 all_goals as_aux_lemma=>kernel_rfl
end Go.Proofs.YtbobikfnkmhgnaaGreatDoor.polyBasics
