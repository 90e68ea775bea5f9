/-
  DERIVED. GIVEN WITH THE SEED: THE CARDS: each row of YtlofjcicpkfcdaaDoorRows.lean that lists a variable, with what it lists TIED to the program's text (the seventh form; the later family's looks); each row that meets fmt, with fmt's text TOLD by the authors' own Lean function (tested against real Go, not proved from fmt's source: count such statements apart). THE CARD IS WHAT COUNTS. Prove the row's statement (the work); the ties are given (YtlofjcicpkfcdaaDoorTie.lean); close each card by the builder's one call (the guide's Derived/Test/ToyasCard.lean, 'card_holds'). Laid BY PROGRAM, IN A SANDBOX (cutbox-door.mjs). By AI agents, Wed Nov 11 2026. No macro, syntax, notation, axiom, sorry.
-/
import Derived.Test.YtlofjcicpkfcdaaDoorRows
import GoSem.ClaimSeven
namespace Go.Proofs.YtlofjcicpkfcdaaDoor
namespace Rows

/-- THE TIED CARD OF 'tidegatelaw41.LedgerReturns'. -/
def ledgerReturnsCard : Claim7 := { stood := { row := ledgerReturnsRow, standIns := [], harness := (true, "472ee7d3a259f33aee8380e61d58d3fbd7a80ff645c0bfbea8647606233d61ea"), looks := false }, kinds := [], alts := [], laidByText := true, laidKinds := [.data, .data, .data], laidTests := true, laidLooks := .later }
def LedgerReturnsCardSaid : Prop := Claim7.holds Tryd.pinned (.plain (OpenSpec.ofChange ledgerReturnsSpec)) ledgerReturnsCard

/-- THE TIED CARD OF 'tidegatelaw41.LedgerCommutes'. -/
def ledgerCommutesCard : Claim7 := { stood := { row := ledgerCommutesRow, standIns := [], harness := (true, "472ee7d3a259f33aee8380e61d58d3fbd7a80ff645c0bfbea8647606233d61ea"), looks := false }, kinds := [], alts := [], laidByText := true, laidKinds := [.data, .data, .data], laidTests := true, laidLooks := .later }
def LedgerCommutesCardSaid : Prop := Claim7.holds Tryd.pinned (.plain (OpenSpec.ofChange ledgerCommutesSpec)) ledgerCommutesCard

/-- THE TIED CARD OF 'tidegatelaw41.LedgerCompares'. -/
def ledgerComparesCard : Claim7 := { stood := { row := ledgerComparesRow, standIns := [], harness := (true, "472ee7d3a259f33aee8380e61d58d3fbd7a80ff645c0bfbea8647606233d61ea"), looks := false }, kinds := [], alts := [], laidByText := true, laidKinds := [.data, .data, .data], laidTests := true, laidLooks := .later }
def LedgerComparesCardSaid : Prop := Claim7.holds Tryd.pinned (.plain (OpenSpec.ofChange ledgerComparesSpec)) ledgerComparesCard

/-- THE TIED CARD OF 'tidegatelaw41.LedgerMerges'. -/
def ledgerMergesCard : Claim7 := { stood := { row := ledgerMergesRow, standIns := [], harness := (true, "472ee7d3a259f33aee8380e61d58d3fbd7a80ff645c0bfbea8647606233d61ea"), looks := false }, kinds := [], alts := [], laidByText := true, laidKinds := [.data, .data, .data], laidTests := true, laidLooks := .later }
def LedgerMergesCardSaid : Prop := Claim7.holds Tryd.pinned (.plain (OpenSpec.ofChange ledgerMergesSpec)) ledgerMergesCard

/-- THE TIED CARD OF 'tidegatelaw41.LedgerStands'. -/
def ledgerStandsCard : Claim7 := { stood := { row := ledgerStandsRow, standIns := [], harness := (true, "472ee7d3a259f33aee8380e61d58d3fbd7a80ff645c0bfbea8647606233d61ea"), looks := false }, kinds := [], alts := [], laidByText := true, laidKinds := [.data, .data, .data], laidTests := true, laidLooks := .later }
def LedgerStandsCardSaid : Prop := Claim7.holds Tryd.pinned (.plain (OpenSpec.ofChange ledgerStandsSpec)) ledgerStandsCard

/-- THE SECOND FORM's CARD OF 'tidegatelaw41.LedgerReturns'. -/
def ledgerReturnsUptoCard : Claim7 := { stood := { row := ledgerReturnsUptoRow, standIns := [], harness := (true, "472ee7d3a259f33aee8380e61d58d3fbd7a80ff645c0bfbea8647606233d61ea"), looks := false }, kinds := [], alts := [], laidByText := true, laidKinds := [.data, .data, .data], laidTests := true, laidLooks := .later }
def LedgerReturnsUptoCardSaid : Prop := Claim7.holds Tryd.pinned (.plain (OpenSpec.upto ledgerReturnsSpec)) ledgerReturnsUptoCard

/-- THE SECOND FORM's CARD OF 'tidegatelaw41.LedgerCommutes'. -/
def ledgerCommutesUptoCard : Claim7 := { stood := { row := ledgerCommutesUptoRow, standIns := [], harness := (true, "472ee7d3a259f33aee8380e61d58d3fbd7a80ff645c0bfbea8647606233d61ea"), looks := false }, kinds := [], alts := [], laidByText := true, laidKinds := [.data, .data, .data], laidTests := true, laidLooks := .later }
def LedgerCommutesUptoCardSaid : Prop := Claim7.holds Tryd.pinned (.plain (OpenSpec.upto ledgerCommutesSpec)) ledgerCommutesUptoCard

/-- THE SECOND FORM's CARD OF 'tidegatelaw41.LedgerCompares'. -/
def ledgerComparesUptoCard : Claim7 := { stood := { row := ledgerComparesUptoRow, standIns := [], harness := (true, "472ee7d3a259f33aee8380e61d58d3fbd7a80ff645c0bfbea8647606233d61ea"), looks := false }, kinds := [], alts := [], laidByText := true, laidKinds := [.data, .data, .data], laidTests := true, laidLooks := .later }
def LedgerComparesUptoCardSaid : Prop := Claim7.holds Tryd.pinned (.plain (OpenSpec.upto ledgerComparesSpec)) ledgerComparesUptoCard

/-- THE SECOND FORM's CARD OF 'tidegatelaw41.LedgerMerges'. -/
def ledgerMergesUptoCard : Claim7 := { stood := { row := ledgerMergesUptoRow, standIns := [], harness := (true, "472ee7d3a259f33aee8380e61d58d3fbd7a80ff645c0bfbea8647606233d61ea"), looks := false }, kinds := [], alts := [], laidByText := true, laidKinds := [.data, .data, .data], laidTests := true, laidLooks := .later }
def LedgerMergesUptoCardSaid : Prop := Claim7.holds Tryd.pinned (.plain (OpenSpec.upto ledgerMergesSpec)) ledgerMergesUptoCard

/-- THE SECOND FORM's CARD OF 'tidegatelaw41.LedgerStands'. -/
def ledgerStandsUptoCard : Claim7 := { stood := { row := ledgerStandsUptoRow, standIns := [], harness := (true, "472ee7d3a259f33aee8380e61d58d3fbd7a80ff645c0bfbea8647606233d61ea"), looks := false }, kinds := [], alts := [], laidByText := true, laidKinds := [.data, .data, .data], laidTests := true, laidLooks := .later }
def LedgerStandsUptoCardSaid : Prop := Claim7.holds Tryd.pinned (.plain (OpenSpec.upto ledgerStandsSpec)) ledgerStandsUptoCard
end Rows
end Go.Proofs.YtlofjcicpkfcdaaDoor
