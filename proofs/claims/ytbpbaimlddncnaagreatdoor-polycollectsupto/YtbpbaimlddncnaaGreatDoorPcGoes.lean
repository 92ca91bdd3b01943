/- A closed fact. -/
import Derived.Test.YtbpbaimlddncnaaGreatDoorPcRd
namespace Go.Proofs.YtbpbaimlddncnaaGreatDoor.polyCollects
open Go
set_option maxRecDepth 100000
set_option maxHeartbeats 40000000
theorem goes:false=Rows.polyCollectsUptoRow.goesBy Tryz.pinned.checked.prog:=by kernel_rfl
end Go.Proofs.YtbpbaimlddncnaaGreatDoor.polyCollects
