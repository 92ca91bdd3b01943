/-
  DERIVED. GIVEN WITH THE SEED: THE CARDS: each row of YtenghgogpgldaaaGreatDoorRows.lean that lists a variable, with what it lists TIED to the program's text (the seventh form; the later family's looks); each row that meets fmt, with fmt's text TOLD by the authors' own Lean function (tested against real Go, not proved from fmt's source: count such statements apart). THE CARD IS WHAT COUNTS. Prove the row's statement (the work); the ties are given (YtenghgogpgldaaaGreatDoorTie.lean); close each card by the builder's one call (the guide's Derived/Test/ToyasCard.lean, 'card_holds'). Laid BY PROGRAM, IN A SANDBOX (cutbox-door.mjs). By AI agents, Wed Nov 11 2026. No macro, syntax, notation, axiom, sorry.
-/
import Derived.Test.YtenghgogpgldaaaGreatDoorRows
import GoSem.ClaimSeven
namespace Go.Proofs.YtenghgogpgldaaaGreatDoor
namespace Rows

/-- THE TIED CARD OF 'amortcostlaw20.PolyDominates'. -/
def polyDominatesCard : Claim7 := { stood := { row := polyDominatesRow, standIns := [], harness := (true, "381212f52588fd44c8e3b3b65d88658a404691cb62e856150acd26cd55322c96"), looks := false }, kinds := [], alts := [], laidByText := true, laidKinds := [.data, .data, .data], laidTests := true, laidLooks := .later }
def PolyDominatesCardSaid : Prop := Claim7.holds Tryz.pinned (.plain (OpenSpec.ofChange polyDominatesSpec)) polyDominatesCard

/-- THE TIED CARD OF 'amortcostlaw20.PolySums'. -/
def polySumsCard : Claim7 := { stood := { row := polySumsRow, standIns := [], harness := (true, "381212f52588fd44c8e3b3b65d88658a404691cb62e856150acd26cd55322c96"), looks := false }, kinds := [], alts := [], laidByText := true, laidKinds := [.data, .data, .data], laidTests := true, laidLooks := .later }
def PolySumsCardSaid : Prop := Claim7.holds Tryz.pinned (.plain (OpenSpec.ofChange polySumsSpec)) polySumsCard

/-- THE TIED CARD OF 'amortcostlaw20.PolyReads'. -/
def polyReadsCard : Claim7 := { stood := { row := polyReadsRow, standIns := [], harness := (true, "381212f52588fd44c8e3b3b65d88658a404691cb62e856150acd26cd55322c96"), looks := false }, kinds := [], alts := [], laidByText := true, laidKinds := [.data, .data, .data], laidTests := true, laidLooks := .later }
def PolyReadsCardSaid : Prop := Claim7.holds Tryz.pinned (.plain (OpenSpec.ofChange polyReadsSpec)) polyReadsCard

/-- THE TIED CARD OF 'amortcostlaw20.PolyMonotone'. -/
def polyMonotoneCard : Claim7 := { stood := { row := polyMonotoneRow, standIns := [], harness := (true, "381212f52588fd44c8e3b3b65d88658a404691cb62e856150acd26cd55322c96"), looks := false }, kinds := [], alts := [], laidByText := true, laidKinds := [.data, .data, .data], laidTests := true, laidLooks := .later }
def PolyMonotoneCardSaid : Prop := Claim7.holds Tryz.pinned (.plain (OpenSpec.ofChange polyMonotoneSpec)) polyMonotoneCard

/-- THE SECOND FORM's CARD OF 'amortcostlaw20.PolyDominates'. -/
def polyDominatesUptoCard : Claim7 := { stood := { row := polyDominatesUptoRow, standIns := [], harness := (true, "381212f52588fd44c8e3b3b65d88658a404691cb62e856150acd26cd55322c96"), looks := false }, kinds := [], alts := [], laidByText := true, laidKinds := [.data, .data, .data], laidTests := true, laidLooks := .later }
def PolyDominatesUptoCardSaid : Prop := Claim7.holds Tryz.pinned (.plain (OpenSpec.upto polyDominatesSpec)) polyDominatesUptoCard

/-- THE SECOND FORM's CARD OF 'amortcostlaw20.PolySums'. -/
def polySumsUptoCard : Claim7 := { stood := { row := polySumsUptoRow, standIns := [], harness := (true, "381212f52588fd44c8e3b3b65d88658a404691cb62e856150acd26cd55322c96"), looks := false }, kinds := [], alts := [], laidByText := true, laidKinds := [.data, .data, .data], laidTests := true, laidLooks := .later }
def PolySumsUptoCardSaid : Prop := Claim7.holds Tryz.pinned (.plain (OpenSpec.upto polySumsSpec)) polySumsUptoCard

/-- THE SECOND FORM's CARD OF 'amortcostlaw20.PolyReads'. -/
def polyReadsUptoCard : Claim7 := { stood := { row := polyReadsUptoRow, standIns := [], harness := (true, "381212f52588fd44c8e3b3b65d88658a404691cb62e856150acd26cd55322c96"), looks := false }, kinds := [], alts := [], laidByText := true, laidKinds := [.data, .data, .data], laidTests := true, laidLooks := .later }
def PolyReadsUptoCardSaid : Prop := Claim7.holds Tryz.pinned (.plain (OpenSpec.upto polyReadsSpec)) polyReadsUptoCard

/-- THE SECOND FORM's CARD OF 'amortcostlaw20.PolyMonotone'. -/
def polyMonotoneUptoCard : Claim7 := { stood := { row := polyMonotoneUptoRow, standIns := [], harness := (true, "381212f52588fd44c8e3b3b65d88658a404691cb62e856150acd26cd55322c96"), looks := false }, kinds := [], alts := [], laidByText := true, laidKinds := [.data, .data, .data], laidTests := true, laidLooks := .later }
def PolyMonotoneUptoCardSaid : Prop := Claim7.holds Tryz.pinned (.plain (OpenSpec.upto polyMonotoneSpec)) polyMonotoneUptoCard
end Rows
end Go.Proofs.YtenghgogpgldaaaGreatDoor
