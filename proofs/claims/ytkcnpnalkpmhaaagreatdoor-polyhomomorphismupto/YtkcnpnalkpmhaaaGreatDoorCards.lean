/-
  DERIVED. GIVEN WITH THE SEED: THE CARDS: each row of YtkcnpnalkpmhaaaGreatDoorRows.lean that lists a variable, with what it lists TIED to the program's text (the seventh form; the later family's looks); each row that meets fmt, with fmt's text TOLD by the authors' own Lean function (tested against real Go, not proved from fmt's source: count such statements apart). THE CARD IS WHAT COUNTS. Prove the row's statement (the work); the ties are given (YtkcnpnalkpmhaaaGreatDoorTie.lean); close each card by the builder's one call (the guide's Derived/Test/ToyasCard.lean, 'card_holds'). Laid BY PROGRAM, IN A SANDBOX (cutbox-door.mjs). By AI agents, Wed Nov 11 2026. No macro, syntax, notation, axiom, sorry.
-/
import Derived.Test.YtkcnpnalkpmhaaaGreatDoorRows
import GoSem.ClaimSeven
namespace Go.Proofs.YtkcnpnalkpmhaaaGreatDoor
namespace Rows

/-- THE TIED CARD OF 'amortcostlaw20.PolyHomomorphism'. -/
def polyHomomorphismCard : Claim7 := { stood := { row := polyHomomorphismRow, standIns := [], harness := (true, "03b7fdde78509e3da144e4cec6ca4a12c814333bd0a34487551fc1eb91265776"), looks := false }, kinds := [], alts := [], laidByText := true, laidKinds := [.data, .data, .data], laidTests := true, laidLooks := .later }
def PolyHomomorphismCardSaid : Prop := Claim7.holds Tryz.pinned (.plain (OpenSpec.ofChange polyHomomorphismSpec)) polyHomomorphismCard

/-- THE SECOND FORM's CARD OF 'amortcostlaw20.PolyHomomorphism'. -/
def polyHomomorphismUptoCard : Claim7 := { stood := { row := polyHomomorphismUptoRow, standIns := [], harness := (true, "03b7fdde78509e3da144e4cec6ca4a12c814333bd0a34487551fc1eb91265776"), looks := false }, kinds := [], alts := [], laidByText := true, laidKinds := [.data, .data, .data], laidTests := true, laidLooks := .later }
def PolyHomomorphismUptoCardSaid : Prop := Claim7.holds Tryz.pinned (.plain (OpenSpec.upto polyHomomorphismSpec)) polyHomomorphismUptoCard
end Rows
end Go.Proofs.YtkcnpnalkpmhaaaGreatDoor
