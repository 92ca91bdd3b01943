/- One closed fact of the row, in a process of its own. -/
import Derived.Test.YtphbdfhbonlpfaaGreatDoorRgRd
namespace Go.Proofs.YtphbdfhbonlpfaaGreatDoor.polyRing
open Go
set_option maxRecDepth 100000
set_option maxHeartbeats 40000000
theorem goes:false=Rows.polyRingUptoRow.goesBy Tryz.pinned.checked.prog:=by kernel_rfl
end Go.Proofs.YtphbdfhbonlpfaaGreatDoor.polyRing
