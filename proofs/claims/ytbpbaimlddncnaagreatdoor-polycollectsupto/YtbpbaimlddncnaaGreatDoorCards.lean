/-
  DERIVED. GIVEN WITH THE SEED: THE CARDS: each row of YtbpbaimlddncnaaGreatDoorRows.lean that lists a variable, with what it lists TIED to the program's text (the seventh form; the later family's looks); each row that meets fmt, with fmt's text TOLD by the authors' own Lean function (tested against real Go, not proved from fmt's source: count such statements apart). THE CARD IS WHAT COUNTS. Prove the row's statement (the work); the ties are given (YtbpbaimlddncnaaGreatDoorTie.lean); close each card by the builder's one call (the guide's Derived/Test/ToyasCard.lean, 'card_holds'). Laid BY PROGRAM, IN A SANDBOX (cutbox-door.mjs). By AI agents, Wed Nov 11 2026. No macro, syntax, notation, axiom, sorry.
-/
import Derived.Test.YtbpbaimlddncnaaGreatDoorRows
import GoSem.ClaimSeven
namespace Go.Proofs.YtbpbaimlddncnaaGreatDoor
namespace Rows

/-- THE TIED CARD OF 'amortcostlaw20.PolyCollects'. -/
def polyCollectsCard : Claim7 := { stood := { row := polyCollectsRow, standIns := [], harness := (true, "32c9d00d30aea92e062e9da6dac24a83f39daa74c2725fdb53d97402c71d16bc"), looks := false }, kinds := [], alts := [], laidByText := true, laidKinds := [.data, .data, .data], laidTests := true, laidLooks := .later }
def PolyCollectsCardSaid : Prop := Claim7.holds Tryz.pinned (.plain (OpenSpec.ofChange polyCollectsSpec)) polyCollectsCard

/-- THE SECOND FORM's CARD OF 'amortcostlaw20.PolyCollects'. -/
def polyCollectsUptoCard : Claim7 := { stood := { row := polyCollectsUptoRow, standIns := [], harness := (true, "32c9d00d30aea92e062e9da6dac24a83f39daa74c2725fdb53d97402c71d16bc"), looks := false }, kinds := [], alts := [], laidByText := true, laidKinds := [.data, .data, .data], laidTests := true, laidLooks := .later }
def PolyCollectsUptoCardSaid : Prop := Claim7.holds Tryz.pinned (.plain (OpenSpec.upto polyCollectsSpec)) polyCollectsUptoCard
end Rows
end Go.Proofs.YtbpbaimlddncnaaGreatDoor
