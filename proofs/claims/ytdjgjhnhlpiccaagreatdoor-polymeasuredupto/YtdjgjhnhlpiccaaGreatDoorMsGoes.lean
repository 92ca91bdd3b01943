/- One closed fact of the row, in a process of its own. -/
import Derived.Test.YtdjgjhnhlpiccaaGreatDoorMsRd
namespace Go.Proofs.YtdjgjhnhlpiccaaGreatDoor.polyMeasured
open Go
set_option maxRecDepth 100000
set_option maxHeartbeats 40000000
theorem goes:false=Rows.polyMeasuredUptoRow.goesBy Tryz.pinned.checked.prog:=by kernel_rfl
end Go.Proofs.YtdjgjhnhlpiccaaGreatDoor.polyMeasured
