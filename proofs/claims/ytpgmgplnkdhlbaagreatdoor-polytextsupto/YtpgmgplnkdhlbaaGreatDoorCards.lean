/-
  DERIVED. GIVEN WITH THE SEED: THE CARDS: each row of YtpgmgplnkdhlbaaGreatDoorRows.lean that lists a variable, with what it lists TIED to the program's text (the seventh form; the later family's looks); each row that meets fmt, with fmt's text TOLD by the authors' own Lean function (tested against real Go, not proved from fmt's source: count such statements apart). THE CARD IS WHAT COUNTS. Prove the row's statement (the work); the ties are given (YtpgmgplnkdhlbaaGreatDoorTie.lean); close each card by the builder's one call (the guide's Derived/Test/ToyasCard.lean, 'card_holds'). Laid BY PROGRAM, IN A SANDBOX (cutbox-door.mjs). By AI agents, Wed Nov 11 2026. No macro, syntax, notation, axiom, sorry.
-/
import Derived.Test.YtpgmgplnkdhlbaaGreatDoorRows
import GoSem.ClaimSeven
namespace Go.Proofs.YtpgmgplnkdhlbaaGreatDoor
namespace Rows

/-- THE TIED CARD OF 'amortcostlaw20.PolyTexts'. -/
def polyTextsCard : Claim7 := { stood := { row := polyTextsRow, standIns := [], harness := (true, "c548f918e5e0beec987bd0cb3ea1da0ab0d974a244b664b178d22baaa6a9cce4"), looks := false }, kinds := [], alts := [], laidByText := true, laidKinds := [.data, .data, .data], laidTests := true, laidLooks := .later }
def PolyTextsCardSaid : Prop := Claim7.holds Tryz.pinned (.plain (OpenSpec.ofChange polyTextsSpec)) polyTextsCard

/-- THE SECOND FORM's CARD OF 'amortcostlaw20.PolyTexts'. -/
def polyTextsUptoCard : Claim7 := { stood := { row := polyTextsUptoRow, standIns := [], harness := (true, "c548f918e5e0beec987bd0cb3ea1da0ab0d974a244b664b178d22baaa6a9cce4"), looks := false }, kinds := [], alts := [], laidByText := true, laidKinds := [.data, .data, .data], laidTests := true, laidLooks := .later }
def PolyTextsUptoCardSaid : Prop := Claim7.holds Tryz.pinned (.plain (OpenSpec.upto polyTextsSpec)) polyTextsUptoCard
end Rows
end Go.Proofs.YtpgmgplnkdhlbaaGreatDoor
