/-
  DERIVED. GIVEN WITH THE SEED: THE CARDS: each row of YtbobikfnkmhgnaaGreatDoorRows.lean that lists a variable, with what it lists TIED to the program's text (the seventh form; the later family's looks); each row that meets fmt, with fmt's text TOLD by the authors' own Lean function (tested against real Go, not proved from fmt's source: count such statements apart). THE CARD IS WHAT COUNTS. Prove the row's statement (the work); the ties are given (YtbobikfnkmhgnaaGreatDoorTie.lean); close each card by the builder's one call (the guide's Derived/Test/ToyasCard.lean, 'card_holds'). Laid BY PROGRAM, IN A SANDBOX (cutbox-door.mjs). By AI agents, Wed Nov 11 2026. No macro, syntax, notation, axiom, sorry.
-/
import Derived.Test.YtbobikfnkmhgnaaGreatDoorRows
import GoSem.ClaimSeven
namespace Go.Proofs.YtbobikfnkmhgnaaGreatDoor
namespace Rows

/-- THE TIED CARD OF 'amortcostlaw32.BoundCompares'. -/
def boundComparesCard : Claim7 := { stood := { row := boundComparesRow, standIns := [], harness := (true, "3ff18670891c7f90a838997e1a5b287e8b0b3b1fe4827ab9b8aa7c1db147084a"), looks := false }, kinds := [], alts := [], laidByText := true, laidKinds := [.data, .data, .data], laidTests := true, laidLooks := .later }
def BoundComparesCardSaid : Prop := Claim7.holds Tryz.pinned (.plain (OpenSpec.ofChange boundComparesSpec)) boundComparesCard

/-- THE TIED CARD OF 'amortcostlaw20.PolyBasics'. -/
def polyBasicsCard : Claim7 := { stood := { row := polyBasicsRow, standIns := [], harness := (true, "3ff18670891c7f90a838997e1a5b287e8b0b3b1fe4827ab9b8aa7c1db147084a"), looks := false }, kinds := [], alts := [], laidByText := true, laidKinds := [.data, .data, .data], laidTests := true, laidLooks := .later }
def PolyBasicsCardSaid : Prop := Claim7.holds Tryz.pinned (.plain (OpenSpec.ofChange polyBasicsSpec)) polyBasicsCard

/-- THE SECOND FORM's CARD OF 'amortcostlaw32.BoundCompares'. -/
def boundComparesUptoCard : Claim7 := { stood := { row := boundComparesUptoRow, standIns := [], harness := (true, "3ff18670891c7f90a838997e1a5b287e8b0b3b1fe4827ab9b8aa7c1db147084a"), looks := false }, kinds := [], alts := [], laidByText := true, laidKinds := [.data, .data, .data], laidTests := true, laidLooks := .later }
def BoundComparesUptoCardSaid : Prop := Claim7.holds Tryz.pinned (.plain (OpenSpec.upto boundComparesSpec)) boundComparesUptoCard

/-- THE SECOND FORM's CARD OF 'amortcostlaw20.PolyBasics'. -/
def polyBasicsUptoCard : Claim7 := { stood := { row := polyBasicsUptoRow, standIns := [], harness := (true, "3ff18670891c7f90a838997e1a5b287e8b0b3b1fe4827ab9b8aa7c1db147084a"), looks := false }, kinds := [], alts := [], laidByText := true, laidKinds := [.data, .data, .data], laidTests := true, laidLooks := .later }
def PolyBasicsUptoCardSaid : Prop := Claim7.holds Tryz.pinned (.plain (OpenSpec.upto polyBasicsSpec)) polyBasicsUptoCard
end Rows
end Go.Proofs.YtbobikfnkmhgnaaGreatDoor
