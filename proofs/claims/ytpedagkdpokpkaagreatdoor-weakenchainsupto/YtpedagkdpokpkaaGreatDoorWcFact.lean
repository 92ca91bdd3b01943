/- The closed facts of the row. -/
import Derived.Test.YtpedagkdpokpkaaGreatDoorWcRd
namespace Go.Proofs.YtpedagkdpokpkaaGreatDoor.weakenChains
open Go
set_option maxRecDepth 100000
set_option maxHeartbeats 40000000
theorem closed:joinedFacts Tryz.pinned.checked.prog 5 Tryz.f5 (Rows.OpenSpec.upto Rows.weakenChainsSpec).bare Rows.weakenChainsUptoRow=true:=by
 unfold joinedFacts
 simp only [Bool.and_eq_true]
 and_intros
 all_goals as_aux_lemma=>kernel_rfl
end Go.Proofs.YtpedagkdpokpkaaGreatDoor.weakenChains
