/-
  DERIVED. GIVEN WITH THE SEED: THE CARDS: each row of YtidkdnlhdbbbjaaGreatDoorRows.lean that lists a variable, with what it lists TIED to the program's text (the seventh form; the later family's looks); each row that meets fmt, with fmt's text TOLD by the authors' own Lean function (tested against real Go, not proved from fmt's source: count such statements apart). THE CARD IS WHAT COUNTS. Prove the row's statement (the work); the ties are given (YtidkdnlhdbbbjaaGreatDoorTie.lean); close each card by the builder's one call (the guide's Derived/Test/ToyasCard.lean, 'card_holds'). Laid BY PROGRAM, IN A SANDBOX (cutbox-door.mjs). By AI agents, Wed Nov 11 2026. No macro, syntax, notation, axiom, sorry.
-/
import Derived.Test.YtidkdnlhdbbbjaaGreatDoorRows
import GoSem.ClaimSeven
namespace Go.Proofs.YtidkdnlhdbbbjaaGreatDoor
namespace Rows

/-- THE TIED CARD OF 'amortcostlaw27.AxiomZero'. -/
def axiomZeroCard : Claim7 := { stood := { row := axiomZeroRow, standIns := [], harness := (true, "ac31eef853ed840a6dfaa7cdb481cd71ccfd5e8a549ebcdc898382c158cc7c75"), looks := false }, kinds := [], alts := [], laidByText := true, laidKinds := [.data, .data, .data], laidTests := true, laidLooks := .later }
def AxiomZeroCardSaid : Prop := Claim7.holds Tryz.pinned (.plain (OpenSpec.ofChange axiomZeroSpec)) axiomZeroCard

/-- THE TIED CARD OF 'amortcostlaw27.AxiomSwaps'. -/
def axiomSwapsCard : Claim7 := { stood := { row := axiomSwapsRow, standIns := [], harness := (true, "ac31eef853ed840a6dfaa7cdb481cd71ccfd5e8a549ebcdc898382c158cc7c75"), looks := false }, kinds := [], alts := [], laidByText := true, laidKinds := [.data, .data, .data], laidTests := true, laidLooks := .later }
def AxiomSwapsCardSaid : Prop := Claim7.holds Tryz.pinned (.plain (OpenSpec.ofChange axiomSwapsSpec)) axiomSwapsCard

/-- THE TIED CARD OF 'amortcostlaw27.AxiomChains'. -/
def axiomChainsCard : Claim7 := { stood := { row := axiomChainsRow, standIns := [], harness := (true, "ac31eef853ed840a6dfaa7cdb481cd71ccfd5e8a549ebcdc898382c158cc7c75"), looks := false }, kinds := [], alts := [], laidByText := true, laidKinds := [.data, .data, .data], laidTests := true, laidLooks := .later }
def AxiomChainsCardSaid : Prop := Claim7.holds Tryz.pinned (.plain (OpenSpec.ofChange axiomChainsSpec)) axiomChainsCard

/-- THE TIED CARD OF 'amortcostlaw27.AxiomTrue'. -/
def axiomTrueCard : Claim7 := { stood := { row := axiomTrueRow, standIns := [], harness := (true, "ac31eef853ed840a6dfaa7cdb481cd71ccfd5e8a549ebcdc898382c158cc7c75"), looks := false }, kinds := [], alts := [], laidByText := true, laidKinds := [.data, .data, .data], laidTests := true, laidLooks := .later }
def AxiomTrueCardSaid : Prop := Claim7.holds Tryz.pinned (.plain (OpenSpec.ofChange axiomTrueSpec)) axiomTrueCard

/-- THE SECOND FORM's CARD OF 'amortcostlaw27.AxiomZero'. -/
def axiomZeroUptoCard : Claim7 := { stood := { row := axiomZeroUptoRow, standIns := [], harness := (true, "ac31eef853ed840a6dfaa7cdb481cd71ccfd5e8a549ebcdc898382c158cc7c75"), looks := false }, kinds := [], alts := [], laidByText := true, laidKinds := [.data, .data, .data], laidTests := true, laidLooks := .later }
def AxiomZeroUptoCardSaid : Prop := Claim7.holds Tryz.pinned (.plain (OpenSpec.upto axiomZeroSpec)) axiomZeroUptoCard

/-- THE SECOND FORM's CARD OF 'amortcostlaw27.AxiomSwaps'. -/
def axiomSwapsUptoCard : Claim7 := { stood := { row := axiomSwapsUptoRow, standIns := [], harness := (true, "ac31eef853ed840a6dfaa7cdb481cd71ccfd5e8a549ebcdc898382c158cc7c75"), looks := false }, kinds := [], alts := [], laidByText := true, laidKinds := [.data, .data, .data], laidTests := true, laidLooks := .later }
def AxiomSwapsUptoCardSaid : Prop := Claim7.holds Tryz.pinned (.plain (OpenSpec.upto axiomSwapsSpec)) axiomSwapsUptoCard

/-- THE SECOND FORM's CARD OF 'amortcostlaw27.AxiomChains'. -/
def axiomChainsUptoCard : Claim7 := { stood := { row := axiomChainsUptoRow, standIns := [], harness := (true, "ac31eef853ed840a6dfaa7cdb481cd71ccfd5e8a549ebcdc898382c158cc7c75"), looks := false }, kinds := [], alts := [], laidByText := true, laidKinds := [.data, .data, .data], laidTests := true, laidLooks := .later }
def AxiomChainsUptoCardSaid : Prop := Claim7.holds Tryz.pinned (.plain (OpenSpec.upto axiomChainsSpec)) axiomChainsUptoCard

/-- THE SECOND FORM's CARD OF 'amortcostlaw27.AxiomTrue'. -/
def axiomTrueUptoCard : Claim7 := { stood := { row := axiomTrueUptoRow, standIns := [], harness := (true, "ac31eef853ed840a6dfaa7cdb481cd71ccfd5e8a549ebcdc898382c158cc7c75"), looks := false }, kinds := [], alts := [], laidByText := true, laidKinds := [.data, .data, .data], laidTests := true, laidLooks := .later }
def AxiomTrueUptoCardSaid : Prop := Claim7.holds Tryz.pinned (.plain (OpenSpec.upto axiomTrueSpec)) axiomTrueUptoCard
end Rows
end Go.Proofs.YtidkdnlhdbbbjaaGreatDoor
