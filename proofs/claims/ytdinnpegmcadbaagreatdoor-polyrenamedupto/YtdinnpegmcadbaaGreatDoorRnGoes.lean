/- A closed fact. -/
import Derived.Test.YtdinnpegmcadbaaGreatDoorRnRd
namespace Go.Proofs.YtdinnpegmcadbaaGreatDoor.polyRenamed
open Go
set_option maxRecDepth 100000
set_option maxHeartbeats 40000000
theorem goes:false=Rows.polyRenamedUptoRow.goesBy Tryz.pinned.checked.prog:=by kernel_rfl
end Go.Proofs.YtdinnpegmcadbaaGreatDoor.polyRenamed
