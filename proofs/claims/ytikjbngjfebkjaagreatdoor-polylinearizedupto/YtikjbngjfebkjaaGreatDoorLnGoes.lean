/- A closed fact. -/
import Derived.Test.YtikjbngjfebkjaaGreatDoorLnRd
namespace Go.Proofs.YtikjbngjfebkjaaGreatDoor.polyLinearized
open Go
set_option maxRecDepth 100000
set_option maxHeartbeats 40000000
theorem goes:false=Rows.polyLinearizedUptoRow.goesBy Tryz.pinned.checked.prog:=by kernel_rfl
end Go.Proofs.YtikjbngjfebkjaaGreatDoor.polyLinearized
