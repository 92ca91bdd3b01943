/- A closed fact. -/
import Derived.Test.YtgfjdimemmhmeaaGreatDoorMuRd
namespace Go.Proofs.YtgfjdimemmhmeaaGreatDoor.polyMultiplies
open Go
set_option maxRecDepth 100000
set_option maxHeartbeats 40000000
theorem goes:false=Rows.polyMultipliesUptoRow.goesBy Tryz.pinned.checked.prog:=by kernel_rfl
end Go.Proofs.YtgfjdimemmhmeaaGreatDoor.polyMultiplies
