/-
  DERIVED. GIVEN WITH THE SEED: THE CARDS: each row of YtgfjdimemmhmeaaGreatDoorRows.lean that lists a variable, with what it lists TIED to the program's text (the seventh form; the later family's looks); each row that meets fmt, with fmt's text TOLD by the authors' own Lean function (tested against real Go, not proved from fmt's source: count such statements apart). THE CARD IS WHAT COUNTS. Prove the row's statement (the work); the ties are given (YtgfjdimemmhmeaaGreatDoorTie.lean); close each card by the builder's one call (the guide's Derived/Test/ToyasCard.lean, 'card_holds'). Laid BY PROGRAM, IN A SANDBOX (cutbox-door.mjs). By AI agents, Wed Nov 11 2026. No macro, syntax, notation, axiom, sorry.
-/
import Derived.Test.YtgfjdimemmhmeaaGreatDoorRows
import GoSem.ClaimSeven
namespace Go.Proofs.YtgfjdimemmhmeaaGreatDoor
namespace Rows

/-- THE TIED CARD OF 'amortcostlaw20.PolyMultiplies'. -/
def polyMultipliesCard : Claim7 := { stood := { row := polyMultipliesRow, standIns := [], harness := (true, "11b1d408e1423d60ab12cc0f6c147432ff25da172a3c28d5e32912a2e4e4e540"), looks := false }, kinds := [], alts := [], laidByText := true, laidKinds := [.data, .data, .data], laidTests := true, laidLooks := .later }
def PolyMultipliesCardSaid : Prop := Claim7.holds Tryz.pinned (.plain (OpenSpec.ofChange polyMultipliesSpec)) polyMultipliesCard

/-- THE SECOND FORM's CARD OF 'amortcostlaw20.PolyMultiplies'. -/
def polyMultipliesUptoCard : Claim7 := { stood := { row := polyMultipliesUptoRow, standIns := [], harness := (true, "11b1d408e1423d60ab12cc0f6c147432ff25da172a3c28d5e32912a2e4e4e540"), looks := false }, kinds := [], alts := [], laidByText := true, laidKinds := [.data, .data, .data], laidTests := true, laidLooks := .later }
def PolyMultipliesUptoCardSaid : Prop := Claim7.holds Tryz.pinned (.plain (OpenSpec.upto polyMultipliesSpec)) polyMultipliesUptoCard
end Rows
end Go.Proofs.YtgfjdimemmhmeaaGreatDoor
