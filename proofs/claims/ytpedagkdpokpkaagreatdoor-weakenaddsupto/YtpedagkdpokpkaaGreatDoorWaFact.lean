/- The closed facts of the row. -/
import Derived.Test.YtpedagkdpokpkaaGreatDoorWaRd
namespace Go.Proofs.YtpedagkdpokpkaaGreatDoor.weakenAdds
open Go
set_option maxRecDepth 100000
set_option maxHeartbeats 40000000
theorem closed:joinedFacts Tryz.pinned.checked.prog 6 Tryz.f6 (Rows.OpenSpec.upto Rows.weakenAddsSpec).bare Rows.weakenAddsUptoRow=true:=by
 unfold joinedFacts
 simp only [Bool.and_eq_true]
 and_intros
 all_goals as_aux_lemma=>kernel_rfl
end Go.Proofs.YtpedagkdpokpkaaGreatDoor.weakenAdds
