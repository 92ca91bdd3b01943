/- A closed fact. -/
import Derived.Test.YtadpefofplenmaaGreatDoorWrRd
namespace Go.Proofs.YtadpefofplenmaaGreatDoor.weakenResidues
open Go
theorem goesNo {P:Program} (h:P.funcs.toList.any Func.goes=false) (c:OpenClaim):false=c.goesBy P:=by
 have h2:∀g:Nat,(P.funcs[g]?).any Func.goes=false:=by intro g;cases e:P.funcs[g]? with| none=>rfl| some fn=>have:=List.any_eq_false.1 h fn (Array.mem_toList_iff.2 (Array.mem_of_getElem? e));simpa using this
 have h3:∀f:FuncId,P.goes f=false:=by intro f;unfold Program.goes;rw [<-Array.any_toList,h,Bool.and_false,Bool.or_false];exact List.any_eq_false.2 fun g _=>by rw [h2 g]; decide
 have h4:∀s:String,P.goesFrom s=false:=by intro s;unfold Program.goesFrom;cases P.funcNamed s with| none=>rfl| some f=>exact h3 f
 have h5:P.inits.toList.any P.goes=false:=List.any_eq_false.2 fun g _=>by rw [h3 g]; decide
 unfold OpenClaim.goesBy Program.goesAt;rw [h4,Bool.false_or];cases c.start <;> first | rfl | exact h5.symm
set_option maxRecDepth 100000
set_option maxHeartbeats 40000000
theorem noGoes:Tryz.pinned.checked.prog.funcs.toList.any Func.goes=false:=by kernel_rfl
theorem goes:false=Rows.weakenResiduesUptoRow.goesBy Tryz.pinned.checked.prog:=goesNo noGoes _
end Go.Proofs.YtadpefofplenmaaGreatDoor.weakenResidues
