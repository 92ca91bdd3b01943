/-
  DERIVED. GIVEN WITH THE SEED: THE CARDS: each row of YthjgkpbilpojpaaGreatDoorRows.lean that lists a variable, with what it lists TIED to the program's text (the seventh form; the later family's looks); each row that meets fmt, with fmt's text TOLD by the authors' own Lean function (tested against real Go, not proved from fmt's source: count such statements apart). THE CARD IS WHAT COUNTS. Prove the row's statement (the work); the ties are given (YthjgkpbilpojpaaGreatDoorTie.lean); close each card by the builder's one call (the guide's Derived/Test/ToyasCard.lean, 'card_holds'). Laid BY PROGRAM, IN A SANDBOX (cutbox-door.mjs). By AI agents, Wed Nov 11 2026. No macro, syntax, notation, axiom, sorry.
-/
import Derived.Test.YthjgkpbilpojpaaGreatDoorRows
import GoSem.ClaimSeven
namespace Go.Proofs.YthjgkpbilpojpaaGreatDoor
namespace Rows

/-- THE TIED CARD OF 'amortcostlaw32.BoundSizes'. -/
def boundSizesCard : Claim7 := { stood := { row := boundSizesRow, standIns := [], harness := (true, "2a1cf39f8f7a7f4d9958afe195897417d916f213da5503eb7496d1e8da773d45"), looks := false }, kinds := [], alts := [], laidByText := true, laidKinds := [.data, .data, .data], laidTests := true, laidLooks := .later }
def BoundSizesCardSaid : Prop := Claim7.holds Tryz.pinned (.plain (OpenSpec.ofChange boundSizesSpec)) boundSizesCard

/-- THE SECOND FORM's CARD OF 'amortcostlaw32.BoundSizes'. -/
def boundSizesUptoCard : Claim7 := { stood := { row := boundSizesUptoRow, standIns := [], harness := (true, "2a1cf39f8f7a7f4d9958afe195897417d916f213da5503eb7496d1e8da773d45"), looks := false }, kinds := [], alts := [], laidByText := true, laidKinds := [.data, .data, .data], laidTests := true, laidLooks := .later }
def BoundSizesUptoCardSaid : Prop := Claim7.holds Tryz.pinned (.plain (OpenSpec.upto boundSizesSpec)) boundSizesUptoCard
end Rows
end Go.Proofs.YthjgkpbilpojpaaGreatDoor
