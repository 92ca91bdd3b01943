/-
  DERIVED. GIVEN WITH THE SEED: THE CARDS: each row of YthhfdmfhkfdfkaaGreatDoorRows.lean that lists a variable, with what it lists TIED to the program's text (the seventh form; the later family's looks); each row that meets fmt, with fmt's text TOLD by the authors' own Lean function (tested against real Go, not proved from fmt's source: count such statements apart). THE CARD IS WHAT COUNTS. Prove the row's statement (the work); the ties are given (YthhfdmfhkfdfkaaGreatDoorTie.lean); close each card by the builder's one call (the guide's Derived/Test/ToyasCard.lean, 'card_holds'). Laid BY PROGRAM, IN A SANDBOX (cutbox-door.mjs). By AI agents, Wed Nov 11 2026. No macro, syntax, notation, axiom, sorry.
-/
import Derived.Test.YthhfdmfhkfdfkaaGreatDoorRows
import GoSem.ClaimSeven
namespace Go.Proofs.YthhfdmfhkfdfkaaGreatDoor
namespace Rows

/-- THE TIED CARD OF 'amortcostlaw20.PolyEvals'. -/
def polyEvalsCard : Claim7 := { stood := { row := polyEvalsRow, standIns := [], harness := (true, "8b10db931d646108d55123969549a69dcd6caf81bdc4259e31ab20193c541a2b"), looks := false }, kinds := [], alts := [], laidByText := true, laidKinds := [.data, .data, .data], laidTests := true, laidLooks := .later }
def PolyEvalsCardSaid : Prop := Claim7.holds Tryz.pinned (.plain (OpenSpec.ofChange polyEvalsSpec)) polyEvalsCard

/-- THE SECOND FORM's CARD OF 'amortcostlaw20.PolyEvals'. -/
def polyEvalsUptoCard : Claim7 := { stood := { row := polyEvalsUptoRow, standIns := [], harness := (true, "8b10db931d646108d55123969549a69dcd6caf81bdc4259e31ab20193c541a2b"), looks := false }, kinds := [], alts := [], laidByText := true, laidKinds := [.data, .data, .data], laidTests := true, laidLooks := .later }
def PolyEvalsUptoCardSaid : Prop := Claim7.holds Tryz.pinned (.plain (OpenSpec.upto polyEvalsSpec)) polyEvalsUptoCard
end Rows
end Go.Proofs.YthhfdmfhkfdfkaaGreatDoor
