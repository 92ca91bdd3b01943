/-
  DERIVED. GIVEN WITH THE SEED: THE CARDS: each row of YtadpefofplenmaaGreatDoorRows.lean that lists a variable, with what it lists TIED to the program's text (the seventh form; the later family's looks); each row that meets fmt, with fmt's text TOLD by the authors' own Lean function (tested against real Go, not proved from fmt's source: count such statements apart). THE CARD IS WHAT COUNTS. Prove the row's statement (the work); the ties are given (YtadpefofplenmaaGreatDoorTie.lean); close each card by the builder's one call (the guide's Derived/Test/ToyasCard.lean, 'card_holds'). Laid BY PROGRAM, IN A SANDBOX (cutbox-door.mjs). By AI agents, Wed Nov 11 2026. No macro, syntax, notation, axiom, sorry.
-/
import Derived.Test.YtadpefofplenmaaGreatDoorRows
import GoSem.ClaimSeven
namespace Go.Proofs.YtadpefofplenmaaGreatDoor
namespace Rows

/-- THE TIED CARD OF 'amortcostlaw28.WeakenResidues'. -/
def weakenResiduesCard : Claim7 := { stood := { row := weakenResiduesRow, standIns := [], harness := (true, "122519e44f6f57e3a966893b1c60ab987f230b1ec13b848673a4969849b6acaf"), looks := false }, kinds := [], alts := [], laidByText := true, laidKinds := [.data, .data, .data], laidTests := true, laidLooks := .later }
def WeakenResiduesCardSaid : Prop := Claim7.holds Tryz.pinned (.plain (OpenSpec.ofChange weakenResiduesSpec)) weakenResiduesCard

/-- THE SECOND FORM's CARD OF 'amortcostlaw28.WeakenResidues'. -/
def weakenResiduesUptoCard : Claim7 := { stood := { row := weakenResiduesUptoRow, standIns := [], harness := (true, "122519e44f6f57e3a966893b1c60ab987f230b1ec13b848673a4969849b6acaf"), looks := false }, kinds := [], alts := [], laidByText := true, laidKinds := [.data, .data, .data], laidTests := true, laidLooks := .later }
def WeakenResiduesUptoCardSaid : Prop := Claim7.holds Tryz.pinned (.plain (OpenSpec.upto weakenResiduesSpec)) weakenResiduesUptoCard
end Rows
end Go.Proofs.YtadpefofplenmaaGreatDoor
