/-
  DERIVED. GIVEN WITH THE SEED: THE CARDS: each row of YtpedagkdpokpkaaGreatDoorRows.lean that lists a variable, with what it lists TIED to the program's text (the seventh form; the later family's looks); each row that meets fmt, with fmt's text TOLD by the authors' own Lean function (tested against real Go, not proved from fmt's source: count such statements apart). THE CARD IS WHAT COUNTS. Prove the row's statement (the work); the ties are given (YtpedagkdpokpkaaGreatDoorTie.lean); close each card by the builder's one call (the guide's Derived/Test/ToyasCard.lean, 'card_holds'). Laid BY PROGRAM, IN A SANDBOX (cutbox-door.mjs). By AI agents, Wed Nov 11 2026. No macro, syntax, notation, axiom, sorry.
-/
import Derived.Test.YtpedagkdpokpkaaGreatDoorRows
import GoSem.ClaimSeven
namespace Go.Proofs.YtpedagkdpokpkaaGreatDoor
namespace Rows

/-- THE TIED CARD OF 'amortcostlaw27.AxiomChecks'. -/
def axiomChecksCard : Claim7 := { stood := { row := axiomChecksRow, standIns := [], harness := (true, "f45910456e4d8fdb507c4dfc88aca1f44ade540746548650c0fa23cdae3dd340"), looks := false }, kinds := [], alts := [], laidByText := true, laidKinds := [.data, .data, .data], laidTests := true, laidLooks := .later }
def AxiomChecksCardSaid : Prop := Claim7.holds Tryz.pinned (.plain (OpenSpec.ofChange axiomChecksSpec)) axiomChecksCard

/-- THE TIED CARD OF 'amortcostlaw28.WeakenGrows'. -/
def weakenGrowsCard : Claim7 := { stood := { row := weakenGrowsRow, standIns := [], harness := (true, "f45910456e4d8fdb507c4dfc88aca1f44ade540746548650c0fa23cdae3dd340"), looks := false }, kinds := [], alts := [], laidByText := true, laidKinds := [.data, .data, .data], laidTests := true, laidLooks := .later }
def WeakenGrowsCardSaid : Prop := Claim7.holds Tryz.pinned (.plain (OpenSpec.ofChange weakenGrowsSpec)) weakenGrowsCard

/-- THE TIED CARD OF 'amortcostlaw28.WeakenChains'. -/
def weakenChainsCard : Claim7 := { stood := { row := weakenChainsRow, standIns := [], harness := (true, "f45910456e4d8fdb507c4dfc88aca1f44ade540746548650c0fa23cdae3dd340"), looks := false }, kinds := [], alts := [], laidByText := true, laidKinds := [.data, .data, .data], laidTests := true, laidLooks := .later }
def WeakenChainsCardSaid : Prop := Claim7.holds Tryz.pinned (.plain (OpenSpec.ofChange weakenChainsSpec)) weakenChainsCard

/-- THE TIED CARD OF 'amortcostlaw28.WeakenAdds'. -/
def weakenAddsCard : Claim7 := { stood := { row := weakenAddsRow, standIns := [], harness := (true, "f45910456e4d8fdb507c4dfc88aca1f44ade540746548650c0fa23cdae3dd340"), looks := false }, kinds := [], alts := [], laidByText := true, laidKinds := [.data, .data, .data], laidTests := true, laidLooks := .later }
def WeakenAddsCardSaid : Prop := Claim7.holds Tryz.pinned (.plain (OpenSpec.ofChange weakenAddsSpec)) weakenAddsCard

/-- THE SECOND FORM's CARD OF 'amortcostlaw27.AxiomChecks'. -/
def axiomChecksUptoCard : Claim7 := { stood := { row := axiomChecksUptoRow, standIns := [], harness := (true, "f45910456e4d8fdb507c4dfc88aca1f44ade540746548650c0fa23cdae3dd340"), looks := false }, kinds := [], alts := [], laidByText := true, laidKinds := [.data, .data, .data], laidTests := true, laidLooks := .later }
def AxiomChecksUptoCardSaid : Prop := Claim7.holds Tryz.pinned (.plain (OpenSpec.upto axiomChecksSpec)) axiomChecksUptoCard

/-- THE SECOND FORM's CARD OF 'amortcostlaw28.WeakenGrows'. -/
def weakenGrowsUptoCard : Claim7 := { stood := { row := weakenGrowsUptoRow, standIns := [], harness := (true, "f45910456e4d8fdb507c4dfc88aca1f44ade540746548650c0fa23cdae3dd340"), looks := false }, kinds := [], alts := [], laidByText := true, laidKinds := [.data, .data, .data], laidTests := true, laidLooks := .later }
def WeakenGrowsUptoCardSaid : Prop := Claim7.holds Tryz.pinned (.plain (OpenSpec.upto weakenGrowsSpec)) weakenGrowsUptoCard

/-- THE SECOND FORM's CARD OF 'amortcostlaw28.WeakenChains'. -/
def weakenChainsUptoCard : Claim7 := { stood := { row := weakenChainsUptoRow, standIns := [], harness := (true, "f45910456e4d8fdb507c4dfc88aca1f44ade540746548650c0fa23cdae3dd340"), looks := false }, kinds := [], alts := [], laidByText := true, laidKinds := [.data, .data, .data], laidTests := true, laidLooks := .later }
def WeakenChainsUptoCardSaid : Prop := Claim7.holds Tryz.pinned (.plain (OpenSpec.upto weakenChainsSpec)) weakenChainsUptoCard

/-- THE SECOND FORM's CARD OF 'amortcostlaw28.WeakenAdds'. -/
def weakenAddsUptoCard : Claim7 := { stood := { row := weakenAddsUptoRow, standIns := [], harness := (true, "f45910456e4d8fdb507c4dfc88aca1f44ade540746548650c0fa23cdae3dd340"), looks := false }, kinds := [], alts := [], laidByText := true, laidKinds := [.data, .data, .data], laidTests := true, laidLooks := .later }
def WeakenAddsUptoCardSaid : Prop := Claim7.holds Tryz.pinned (.plain (OpenSpec.upto weakenAddsSpec)) weakenAddsUptoCard
end Rows
end Go.Proofs.YtpedagkdpokpkaaGreatDoor
