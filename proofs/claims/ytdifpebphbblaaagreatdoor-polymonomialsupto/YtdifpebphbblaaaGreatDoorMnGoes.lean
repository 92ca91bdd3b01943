/- A closed fact. -/
import Derived.Test.YtdifpebphbblaaaGreatDoorMnRd
namespace Go.Proofs.YtdifpebphbblaaaGreatDoor.polyMonomials
open Go
theorem goesNo {P:Program} (h:P.funcs.toList.any Func.goes=false) (c:OpenClaim):false=c.goesBy P:=by
 have h2:∀g:Nat,(P.funcs[g]?).any Func.goes=false:=by intro g;cases e:P.funcs[g]? with| none=>rfl| some fn=>simpa using List.any_eq_false.1 h fn (Array.mem_toList_iff.2 (Array.mem_of_getElem? e))
 have h3:P.goes=fun _=>false:=by funext f;unfold Program.goes;rw [<-Array.any_toList,h];simp [h2]
 unfold OpenClaim.goesBy Program.goesAt Program.goesFrom;rw [h3];cases P.funcNamed c.func <;> cases c.start <;> simp
set_option maxRecDepth 100000
set_option maxHeartbeats 40000000
theorem noGoes:Tryz.pinned.checked.prog.funcs.toList.any Func.goes=false:=by kernel_rfl
theorem goes:false=Rows.polyMonomialsUptoRow.goesBy Tryz.pinned.checked.prog:=goesNo noGoes _
end Go.Proofs.YtdifpebphbblaaaGreatDoor.polyMonomials
