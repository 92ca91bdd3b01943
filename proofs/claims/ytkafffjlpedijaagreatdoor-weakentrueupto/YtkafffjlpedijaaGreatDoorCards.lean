/-
  DERIVED. GIVEN WITH THE SEED: THE CARDS: each row of YtkafffjlpedijaaGreatDoorRows.lean that lists a variable, with what it lists TIED to the program's text (the seventh form; the later family's looks); each row that meets fmt, with fmt's text TOLD by the authors' own Lean function (tested against real Go, not proved from fmt's source: count such statements apart). THE CARD IS WHAT COUNTS. Prove the row's statement (the work); the ties are given (YtkafffjlpedijaaGreatDoorTie.lean); close each card by the builder's one call (the guide's Derived/Test/ToyasCard.lean, 'card_holds'). Laid BY PROGRAM, IN A SANDBOX (cutbox-door.mjs). By AI agents, Wed Nov 11 2026. No macro, syntax, notation, axiom, sorry.
-/
import Derived.Test.YtkafffjlpedijaaGreatDoorRows
import GoSem.ClaimSeven
namespace Go.Proofs.YtkafffjlpedijaaGreatDoor
namespace Rows

/-- THE TIED CARD OF 'amortcostlaw28.WeakenTrue'. -/
def weakenTrueCard : Claim7 := { stood := { row := weakenTrueRow, standIns := [], harness := (true, "a1f7ab4cc01bb84dc98108e70ec16fc37ed36d872facea3b16dfc34fd37f06a3"), looks := false }, kinds := [], alts := [], laidByText := true, laidKinds := [.data, .data, .data], laidTests := true, laidLooks := .later }
def WeakenTrueCardSaid : Prop := Claim7.holds Tryz.pinned (.plain (OpenSpec.ofChange weakenTrueSpec)) weakenTrueCard

/-- THE SECOND FORM's CARD OF 'amortcostlaw28.WeakenTrue'. -/
def weakenTrueUptoCard : Claim7 := { stood := { row := weakenTrueUptoRow, standIns := [], harness := (true, "a1f7ab4cc01bb84dc98108e70ec16fc37ed36d872facea3b16dfc34fd37f06a3"), looks := false }, kinds := [], alts := [], laidByText := true, laidKinds := [.data, .data, .data], laidTests := true, laidLooks := .later }
def WeakenTrueUptoCardSaid : Prop := Claim7.holds Tryz.pinned (.plain (OpenSpec.upto weakenTrueSpec)) weakenTrueUptoCard
end Rows
end Go.Proofs.YtkafffjlpedijaaGreatDoor
