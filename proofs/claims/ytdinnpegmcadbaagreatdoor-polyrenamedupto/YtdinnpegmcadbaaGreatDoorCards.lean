/-
  DERIVED. GIVEN WITH THE SEED: THE CARDS: each row of YtdinnpegmcadbaaGreatDoorRows.lean that lists a variable, with what it lists TIED to the program's text (the seventh form; the later family's looks); each row that meets fmt, with fmt's text TOLD by the authors' own Lean function (tested against real Go, not proved from fmt's source: count such statements apart). THE CARD IS WHAT COUNTS. Prove the row's statement (the work); the ties are given (YtdinnpegmcadbaaGreatDoorTie.lean); close each card by the builder's one call (the guide's Derived/Test/ToyasCard.lean, 'card_holds'). Laid BY PROGRAM, IN A SANDBOX (cutbox-door.mjs). By AI agents, Wed Nov 11 2026. No macro, syntax, notation, axiom, sorry.
-/
import Derived.Test.YtdinnpegmcadbaaGreatDoorRows
import GoSem.ClaimSeven
namespace Go.Proofs.YtdinnpegmcadbaaGreatDoor
namespace Rows

/-- THE TIED CARD OF 'amortcostlaw20.PolyRenamed'. -/
def polyRenamedCard : Claim7 := { stood := { row := polyRenamedRow, standIns := [], harness := (true, "f0d243e4a97e1cbaa5a62bec4627d0ce99195657e264dd34ac4c2b3061c5ff7e"), looks := false }, kinds := [], alts := [], laidByText := true, laidKinds := [.data, .data, .data], laidTests := true, laidLooks := .later }
def PolyRenamedCardSaid : Prop := Claim7.holds Tryz.pinned (.plain (OpenSpec.ofChange polyRenamedSpec)) polyRenamedCard

/-- THE SECOND FORM's CARD OF 'amortcostlaw20.PolyRenamed'. -/
def polyRenamedUptoCard : Claim7 := { stood := { row := polyRenamedUptoRow, standIns := [], harness := (true, "f0d243e4a97e1cbaa5a62bec4627d0ce99195657e264dd34ac4c2b3061c5ff7e"), looks := false }, kinds := [], alts := [], laidByText := true, laidKinds := [.data, .data, .data], laidTests := true, laidLooks := .later }
def PolyRenamedUptoCardSaid : Prop := Claim7.holds Tryz.pinned (.plain (OpenSpec.upto polyRenamedSpec)) polyRenamedUptoCard
end Rows
end Go.Proofs.YtdinnpegmcadbaaGreatDoor
