/-
  DERIVED. GIVEN WITH THE SEED: THE CARDS: each row of YtikjbngjfebkjaaGreatDoorRows.lean that lists a variable, with what it lists TIED to the program's text (the seventh form; the later family's looks); each row that meets fmt, with fmt's text TOLD by the authors' own Lean function (tested against real Go, not proved from fmt's source: count such statements apart). THE CARD IS WHAT COUNTS. Prove the row's statement (the work); the ties are given (YtikjbngjfebkjaaGreatDoorTie.lean); close each card by the builder's one call (the guide's Derived/Test/ToyasCard.lean, 'card_holds'). Laid BY PROGRAM, IN A SANDBOX (cutbox-door.mjs). By AI agents, Wed Nov 11 2026. No macro, syntax, notation, axiom, sorry.
-/
import Derived.Test.YtikjbngjfebkjaaGreatDoorRows
import GoSem.ClaimSeven
namespace Go.Proofs.YtikjbngjfebkjaaGreatDoor
namespace Rows

/-- THE TIED CARD OF 'amortcostlaw20.PolyLinearized'. -/
def polyLinearizedCard : Claim7 := { stood := { row := polyLinearizedRow, standIns := [], harness := (true, "18614ef1ce717602086acec70c40e55197d59810361d732aa3c290b65a5c6564"), looks := false }, kinds := [], alts := [], laidByText := true, laidKinds := [.data, .data, .data], laidTests := true, laidLooks := .later }
def PolyLinearizedCardSaid : Prop := Claim7.holds Tryz.pinned (.plain (OpenSpec.ofChange polyLinearizedSpec)) polyLinearizedCard

/-- THE SECOND FORM's CARD OF 'amortcostlaw20.PolyLinearized'. -/
def polyLinearizedUptoCard : Claim7 := { stood := { row := polyLinearizedUptoRow, standIns := [], harness := (true, "18614ef1ce717602086acec70c40e55197d59810361d732aa3c290b65a5c6564"), looks := false }, kinds := [], alts := [], laidByText := true, laidKinds := [.data, .data, .data], laidTests := true, laidLooks := .later }
def PolyLinearizedUptoCardSaid : Prop := Claim7.holds Tryz.pinned (.plain (OpenSpec.upto polyLinearizedSpec)) polyLinearizedUptoCard
end Rows
end Go.Proofs.YtikjbngjfebkjaaGreatDoor
