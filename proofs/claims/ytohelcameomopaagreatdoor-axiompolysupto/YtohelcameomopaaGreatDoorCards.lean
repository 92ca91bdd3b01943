/-
  DERIVED. GIVEN WITH THE SEED: THE CARDS: each row of YtohelcameomopaaGreatDoorRows.lean that lists a variable, with what it lists TIED to the program's text (the seventh form; the later family's looks); each row that meets fmt, with fmt's text TOLD by the authors' own Lean function (tested against real Go, not proved from fmt's source: count such statements apart). THE CARD IS WHAT COUNTS. Prove the row's statement (the work); the ties are given (YtohelcameomopaaGreatDoorTie.lean); close each card by the builder's one call (the guide's Derived/Test/ToyasCard.lean, 'card_holds'). Laid BY PROGRAM, IN A SANDBOX (cutbox-door.mjs). By AI agents, Wed Nov 11 2026. No macro, syntax, notation, axiom, sorry.
-/
import Derived.Test.YtohelcameomopaaGreatDoorRows
import GoSem.ClaimSeven
namespace Go.Proofs.YtohelcameomopaaGreatDoor
namespace Rows

/-- THE TIED CARD OF 'amortcostlaw27.AxiomPolys'. -/
def axiomPolysCard : Claim7 := { stood := { row := axiomPolysRow, standIns := [], harness := (true, "67568df34925231dc289025ab064aa5254d1b09f2ca8e4a9b6fed5d3bf7ad39e"), looks := false }, kinds := [], alts := [], laidByText := true, laidKinds := [.data, .data, .data], laidTests := true, laidLooks := .later }
def AxiomPolysCardSaid : Prop := Claim7.holds Tryz.pinned (.plain (OpenSpec.ofChange axiomPolysSpec)) axiomPolysCard

/-- THE SECOND FORM's CARD OF 'amortcostlaw27.AxiomPolys'. -/
def axiomPolysUptoCard : Claim7 := { stood := { row := axiomPolysUptoRow, standIns := [], harness := (true, "67568df34925231dc289025ab064aa5254d1b09f2ca8e4a9b6fed5d3bf7ad39e"), looks := false }, kinds := [], alts := [], laidByText := true, laidKinds := [.data, .data, .data], laidTests := true, laidLooks := .later }
def AxiomPolysUptoCardSaid : Prop := Claim7.holds Tryz.pinned (.plain (OpenSpec.upto axiomPolysSpec)) axiomPolysUptoCard
end Rows
end Go.Proofs.YtohelcameomopaaGreatDoor
