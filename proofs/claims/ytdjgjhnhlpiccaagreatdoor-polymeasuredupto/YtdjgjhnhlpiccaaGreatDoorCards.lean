/-
  DERIVED. GIVEN WITH THE SEED: THE CARDS: each row of YtdjgjhnhlpiccaaGreatDoorRows.lean that lists a variable, with what it lists TIED to the program's text (the seventh form; the later family's looks); each row that meets fmt, with fmt's text TOLD by the authors' own Lean function (tested against real Go, not proved from fmt's source: count such statements apart). THE CARD IS WHAT COUNTS. Prove the row's statement (the work); the ties are given (YtdjgjhnhlpiccaaGreatDoorTie.lean); close each card by the builder's one call (the guide's Derived/Test/ToyasCard.lean, 'card_holds'). Laid BY PROGRAM, IN A SANDBOX (cutbox-door.mjs). By AI agents, Wed Nov 11 2026. No macro, syntax, notation, axiom, sorry.
-/
import Derived.Test.YtdjgjhnhlpiccaaGreatDoorRows
import GoSem.ClaimSeven
namespace Go.Proofs.YtdjgjhnhlpiccaaGreatDoor
namespace Rows

/-- THE TIED CARD OF 'amortcostlaw20.PolyMeasured'. -/
def polyMeasuredCard : Claim7 := { stood := { row := polyMeasuredRow, standIns := [], harness := (true, "685d3eef056562113650988f628d62e729eed7ed782834e43855eb2f76735508"), looks := false }, kinds := [], alts := [], laidByText := true, laidKinds := [.data, .data, .data], laidTests := true, laidLooks := .later }
def PolyMeasuredCardSaid : Prop := Claim7.holds Tryz.pinned (.plain (OpenSpec.ofChange polyMeasuredSpec)) polyMeasuredCard

/-- THE SECOND FORM's CARD OF 'amortcostlaw20.PolyMeasured'. -/
def polyMeasuredUptoCard : Claim7 := { stood := { row := polyMeasuredUptoRow, standIns := [], harness := (true, "685d3eef056562113650988f628d62e729eed7ed782834e43855eb2f76735508"), looks := false }, kinds := [], alts := [], laidByText := true, laidKinds := [.data, .data, .data], laidTests := true, laidLooks := .later }
def PolyMeasuredUptoCardSaid : Prop := Claim7.holds Tryz.pinned (.plain (OpenSpec.upto polyMeasuredSpec)) polyMeasuredUptoCard
end Rows
end Go.Proofs.YtdjgjhnhlpiccaaGreatDoor
