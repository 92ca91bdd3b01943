/-
  DERIVED. GIVEN WITH THE SEED: THE CARDS: each row of YtjjkmepjaemceaaGreatDoorRows.lean that lists a variable, with what it lists TIED to the program's text (the seventh form; the later family's looks); each row that meets fmt, with fmt's text TOLD by the authors' own Lean function (tested against real Go, not proved from fmt's source: count such statements apart). THE CARD IS WHAT COUNTS. Prove the row's statement (the work); the ties are given (YtjjkmepjaemceaaGreatDoorTie.lean); close each card by the builder's one call (the guide's Derived/Test/ToyasCard.lean, 'card_holds'). Laid BY PROGRAM, IN A SANDBOX (cutbox-door.mjs). By AI agents, Wed Nov 11 2026. No macro, syntax, notation, axiom, sorry.
-/
import Derived.Test.YtjjkmepjaemceaaGreatDoorRows
import GoSem.ClaimSeven
namespace Go.Proofs.YtjjkmepjaemceaaGreatDoor
namespace Rows

/-- THE TIED CARD OF 'amortcostlaw32.BoundCounts'. -/
def boundCountsCard : Claim7 := { stood := { row := boundCountsRow, standIns := [], harness := (true, "1a1918fb02844a0c5621c8b2508596226847b8d573966de812f257cd61f017e4"), looks := false }, kinds := [], alts := [], laidByText := true, laidKinds := [.data, .data, .data], laidTests := true, laidLooks := .later }
def BoundCountsCardSaid : Prop := Claim7.holds Tryz.pinned (.plain (OpenSpec.ofChange boundCountsSpec)) boundCountsCard

/-- THE TIED CARD OF 'amortcostlaw32.BoundLattice'. -/
def boundLatticeCard : Claim7 := { stood := { row := boundLatticeRow, standIns := [], harness := (true, "1a1918fb02844a0c5621c8b2508596226847b8d573966de812f257cd61f017e4"), looks := false }, kinds := [], alts := [], laidByText := true, laidKinds := [.data, .data, .data], laidTests := true, laidLooks := .later }
def BoundLatticeCardSaid : Prop := Claim7.holds Tryz.pinned (.plain (OpenSpec.ofChange boundLatticeSpec)) boundLatticeCard

/-- THE TIED CARD OF 'amortcostlaw32.BoundCompares'. -/
def boundComparesCard : Claim7 := { stood := { row := boundComparesRow, standIns := [], harness := (true, "1a1918fb02844a0c5621c8b2508596226847b8d573966de812f257cd61f017e4"), looks := false }, kinds := [], alts := [], laidByText := true, laidKinds := [.data, .data, .data], laidTests := true, laidLooks := .later }
def BoundComparesCardSaid : Prop := Claim7.holds Tryz.pinned (.plain (OpenSpec.ofChange boundComparesSpec)) boundComparesCard

/-- THE TIED CARD OF 'amortcostlaw32.BoundCloses'. -/
def boundClosesCard : Claim7 := { stood := { row := boundClosesRow, standIns := [], harness := (true, "1a1918fb02844a0c5621c8b2508596226847b8d573966de812f257cd61f017e4"), looks := false }, kinds := [], alts := [], laidByText := true, laidKinds := [.data, .data, .data], laidTests := true, laidLooks := .later }
def BoundClosesCardSaid : Prop := Claim7.holds Tryz.pinned (.plain (OpenSpec.ofChange boundClosesSpec)) boundClosesCard

/-- THE SECOND FORM's CARD OF 'amortcostlaw32.BoundCounts'. -/
def boundCountsUptoCard : Claim7 := { stood := { row := boundCountsUptoRow, standIns := [], harness := (true, "1a1918fb02844a0c5621c8b2508596226847b8d573966de812f257cd61f017e4"), looks := false }, kinds := [], alts := [], laidByText := true, laidKinds := [.data, .data, .data], laidTests := true, laidLooks := .later }
def BoundCountsUptoCardSaid : Prop := Claim7.holds Tryz.pinned (.plain (OpenSpec.upto boundCountsSpec)) boundCountsUptoCard

/-- THE SECOND FORM's CARD OF 'amortcostlaw32.BoundLattice'. -/
def boundLatticeUptoCard : Claim7 := { stood := { row := boundLatticeUptoRow, standIns := [], harness := (true, "1a1918fb02844a0c5621c8b2508596226847b8d573966de812f257cd61f017e4"), looks := false }, kinds := [], alts := [], laidByText := true, laidKinds := [.data, .data, .data], laidTests := true, laidLooks := .later }
def BoundLatticeUptoCardSaid : Prop := Claim7.holds Tryz.pinned (.plain (OpenSpec.upto boundLatticeSpec)) boundLatticeUptoCard

/-- THE SECOND FORM's CARD OF 'amortcostlaw32.BoundCompares'. -/
def boundComparesUptoCard : Claim7 := { stood := { row := boundComparesUptoRow, standIns := [], harness := (true, "1a1918fb02844a0c5621c8b2508596226847b8d573966de812f257cd61f017e4"), looks := false }, kinds := [], alts := [], laidByText := true, laidKinds := [.data, .data, .data], laidTests := true, laidLooks := .later }
def BoundComparesUptoCardSaid : Prop := Claim7.holds Tryz.pinned (.plain (OpenSpec.upto boundComparesSpec)) boundComparesUptoCard

/-- THE SECOND FORM's CARD OF 'amortcostlaw32.BoundCloses'. -/
def boundClosesUptoCard : Claim7 := { stood := { row := boundClosesUptoRow, standIns := [], harness := (true, "1a1918fb02844a0c5621c8b2508596226847b8d573966de812f257cd61f017e4"), looks := false }, kinds := [], alts := [], laidByText := true, laidKinds := [.data, .data, .data], laidTests := true, laidLooks := .later }
def BoundClosesUptoCardSaid : Prop := Claim7.holds Tryz.pinned (.plain (OpenSpec.upto boundClosesSpec)) boundClosesUptoCard
end Rows
end Go.Proofs.YtjjkmepjaemceaaGreatDoor
