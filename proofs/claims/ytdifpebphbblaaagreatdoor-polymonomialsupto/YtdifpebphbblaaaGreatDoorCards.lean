/-
  DERIVED. GIVEN WITH THE SEED: THE CARDS: each row of YtdifpebphbblaaaGreatDoorRows.lean that lists a variable, with what it lists TIED to the program's text (the seventh form; the later family's looks); each row that meets fmt, with fmt's text TOLD by the authors' own Lean function (tested against real Go, not proved from fmt's source: count such statements apart). THE CARD IS WHAT COUNTS. Prove the row's statement (the work); the ties are given (YtdifpebphbblaaaGreatDoorTie.lean); close each card by the builder's one call (the guide's Derived/Test/ToyasCard.lean, 'card_holds'). Laid BY PROGRAM, IN A SANDBOX (cutbox-door.mjs). By AI agents, Wed Nov 11 2026. No macro, syntax, notation, axiom, sorry.
-/
import Derived.Test.YtdifpebphbblaaaGreatDoorRows
import GoSem.ClaimSeven
namespace Go.Proofs.YtdifpebphbblaaaGreatDoor
namespace Rows

/-- THE TIED CARD OF 'amortcostlaw20.PolyMonomials'. -/
def polyMonomialsCard : Claim7 := { stood := { row := polyMonomialsRow, standIns := [], harness := (true, "8feba24e9a0bffbdf4c90a44baabb4625af0751825405e06891ab13c75e00afc"), looks := false }, kinds := [], alts := [], laidByText := true, laidKinds := [.data, .data, .data], laidTests := true, laidLooks := .later }
def PolyMonomialsCardSaid : Prop := Claim7.holds Tryz.pinned (.plain (OpenSpec.ofChange polyMonomialsSpec)) polyMonomialsCard

/-- THE SECOND FORM's CARD OF 'amortcostlaw20.PolyMonomials'. -/
def polyMonomialsUptoCard : Claim7 := { stood := { row := polyMonomialsUptoRow, standIns := [], harness := (true, "8feba24e9a0bffbdf4c90a44baabb4625af0751825405e06891ab13c75e00afc"), looks := false }, kinds := [], alts := [], laidByText := true, laidKinds := [.data, .data, .data], laidTests := true, laidLooks := .later }
def PolyMonomialsUptoCardSaid : Prop := Claim7.holds Tryz.pinned (.plain (OpenSpec.upto polyMonomialsSpec)) polyMonomialsUptoCard
end Rows
end Go.Proofs.YtdifpebphbblaaaGreatDoor
