/-
  DERIVED. GIVEN WITH THE SEED: THE CARDS: each row of YthfkffcjnfocdaaGreatDoorRows.lean that lists a variable, with what it lists TIED to the program's text (the seventh form; the later family's looks); each row that meets fmt, with fmt's text TOLD by the authors' own Lean function (tested against real Go, not proved from fmt's source: count such statements apart). THE CARD IS WHAT COUNTS. Prove the row's statement (the work); the ties are given (YthfkffcjnfocdaaGreatDoorTie.lean); close each card by the builder's one call (the guide's Derived/Test/ToyasCard.lean, 'card_holds'). Laid BY PROGRAM, IN A SANDBOX (cutbox-door.mjs). By AI agents, Wed Nov 11 2026. No macro, syntax, notation, axiom, sorry.
-/
import Derived.Test.YthfkffcjnfocdaaGreatDoorRows
import GoSem.ClaimSeven
namespace Go.Proofs.YthfkffcjnfocdaaGreatDoor
namespace Rows

/-- THE TIED CARD OF 'amortcostlaw20.PolyUnfolded'. -/
def polyUnfoldedCard : Claim7 := { stood := { row := polyUnfoldedRow, standIns := [], harness := (true, "a8398acce7aa19d2629339fcd3a027048c11a4e4efc2f6ceec41be17ec768a56"), looks := false }, kinds := [], alts := [], laidByText := true, laidKinds := [.data, .data, .data], laidTests := true, laidLooks := .later }
def PolyUnfoldedCardSaid : Prop := Claim7.holds Tryz.pinned (.plain (OpenSpec.ofChange polyUnfoldedSpec)) polyUnfoldedCard

/-- THE SECOND FORM's CARD OF 'amortcostlaw20.PolyUnfolded'. -/
def polyUnfoldedUptoCard : Claim7 := { stood := { row := polyUnfoldedUptoRow, standIns := [], harness := (true, "a8398acce7aa19d2629339fcd3a027048c11a4e4efc2f6ceec41be17ec768a56"), looks := false }, kinds := [], alts := [], laidByText := true, laidKinds := [.data, .data, .data], laidTests := true, laidLooks := .later }
def PolyUnfoldedUptoCardSaid : Prop := Claim7.holds Tryz.pinned (.plain (OpenSpec.upto polyUnfoldedSpec)) polyUnfoldedUptoCard
end Rows
end Go.Proofs.YthfkffcjnfocdaaGreatDoor
