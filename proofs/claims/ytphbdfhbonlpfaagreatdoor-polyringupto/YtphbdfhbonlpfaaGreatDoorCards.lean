/-
  DERIVED. GIVEN WITH THE SEED: THE CARDS: each row of YtphbdfhbonlpfaaGreatDoorRows.lean that lists a variable, with what it lists TIED to the program's text (the seventh form; the later family's looks); each row that meets fmt, with fmt's text TOLD by the authors' own Lean function (tested against real Go, not proved from fmt's source: count such statements apart). THE CARD IS WHAT COUNTS. Prove the row's statement (the work); the ties are given (YtphbdfhbonlpfaaGreatDoorTie.lean); close each card by the builder's one call (the guide's Derived/Test/ToyasCard.lean, 'card_holds'). Laid BY PROGRAM, IN A SANDBOX (cutbox-door.mjs). By AI agents, Wed Nov 11 2026. No macro, syntax, notation, axiom, sorry.
-/
import Derived.Test.YtphbdfhbonlpfaaGreatDoorRows
import GoSem.ClaimSeven
namespace Go.Proofs.YtphbdfhbonlpfaaGreatDoor
namespace Rows

/-- THE TIED CARD OF 'amortcostlaw20.PolyRing'. -/
def polyRingCard : Claim7 := { stood := { row := polyRingRow, standIns := [], harness := (true, "7824bc0d3f1d043982fea113be0f179fbfbc88814541bba3f8cf380a3ea9643f"), looks := false }, kinds := [], alts := [], laidByText := true, laidKinds := [.data, .data, .data], laidTests := true, laidLooks := .later }
def PolyRingCardSaid : Prop := Claim7.holds Tryz.pinned (.plain (OpenSpec.ofChange polyRingSpec)) polyRingCard

/-- THE SECOND FORM's CARD OF 'amortcostlaw20.PolyRing'. -/
def polyRingUptoCard : Claim7 := { stood := { row := polyRingUptoRow, standIns := [], harness := (true, "7824bc0d3f1d043982fea113be0f179fbfbc88814541bba3f8cf380a3ea9643f"), looks := false }, kinds := [], alts := [], laidByText := true, laidKinds := [.data, .data, .data], laidTests := true, laidLooks := .later }
def PolyRingUptoCardSaid : Prop := Claim7.holds Tryz.pinned (.plain (OpenSpec.upto polyRingSpec)) polyRingUptoCard
end Rows
end Go.Proofs.YtphbdfhbonlpfaaGreatDoor
