/-
  DERIVED. GIVEN WITH THE SEED: THE CARDS: each row of YtnjbofimdneilaaGreatDoorRows.lean that lists a variable, with what it lists TIED to the program's text (the seventh form; the later family's looks); each row that meets fmt, with fmt's text TOLD by the authors' own Lean function (tested against real Go, not proved from fmt's source: count such statements apart). THE CARD IS WHAT COUNTS. Prove the row's statement (the work); the ties are given (YtnjbofimdneilaaGreatDoorTie.lean); close each card by the builder's one call (the guide's Derived/Test/ToyasCard.lean, 'card_holds'). Laid BY PROGRAM, IN A SANDBOX (cutbox-door.mjs). By AI agents, Wed Nov 11 2026. No macro, syntax, notation, axiom, sorry.
-/
import Derived.Test.YtnjbofimdneilaaGreatDoorRows
import GoSem.ClaimSeven
namespace Go.Proofs.YtnjbofimdneilaaGreatDoor
namespace Rows

/-- THE TIED CARD OF 'amortcostlaw28.WeakenChecks'. -/
def weakenChecksCard : Claim7 := { stood := { row := weakenChecksRow, standIns := [], harness := (true, "62fa94f8077294a92274d7fd945e5fc3968b79d5702518fb137d65697e74fdb4"), looks := false }, kinds := [], alts := [], laidByText := true, laidKinds := [.data, .data, .data], laidTests := true, laidLooks := .later }
def WeakenChecksCardSaid : Prop := Claim7.holds Tryz.pinned (.plain (OpenSpec.ofChange weakenChecksSpec)) weakenChecksCard

/-- THE SECOND FORM's CARD OF 'amortcostlaw28.WeakenChecks'. -/
def weakenChecksUptoCard : Claim7 := { stood := { row := weakenChecksUptoRow, standIns := [], harness := (true, "62fa94f8077294a92274d7fd945e5fc3968b79d5702518fb137d65697e74fdb4"), looks := false }, kinds := [], alts := [], laidByText := true, laidKinds := [.data, .data, .data], laidTests := true, laidLooks := .later }
def WeakenChecksUptoCardSaid : Prop := Claim7.holds Tryz.pinned (.plain (OpenSpec.upto weakenChecksSpec)) weakenChecksUptoCard
end Rows
end Go.Proofs.YtnjbofimdneilaaGreatDoor
