/-
  DERIVED. GIVEN WITH THE SEED: THE CARDS: each row of YtlofjcicpkfcdaaGreatDoorRows.lean that lists a variable, with what it lists TIED to the program's text (the seventh form; the later family's looks); each row that meets fmt, with fmt's text TOLD by the authors' own Lean function (tested against real Go, not proved from fmt's source: count such statements apart). THE CARD IS WHAT COUNTS. Prove the row's statement (the work); the ties are given (YtlofjcicpkfcdaaGreatDoorTie.lean); close each card by the builder's one call (the guide's Derived/Test/ToyasCard.lean, 'card_holds'). Laid BY PROGRAM, IN A SANDBOX (cutbox-door.mjs). By AI agents, Wed Nov 11 2026. No macro, syntax, notation, axiom, sorry.
-/
import Derived.Test.YtlofjcicpkfcdaaGreatDoorRows
import GoSem.ClaimSeven
namespace Go.Proofs.YtlofjcicpkfcdaaGreatDoor
namespace Rows

/-- THE TIED CARD OF 'tidegatelaw41.LedgerApplies'. -/
def ledgerAppliesCard : Claim7 := { stood := { row := ledgerAppliesRow, standIns := [], harness := (true, "8f4f905f12fa979e3014adfa90d191e1688f7628d62d840113ac5d579d3920d9"), looks := false }, kinds := [], alts := [], laidByText := true, laidKinds := [.data, .data, .data], laidTests := true, laidLooks := .later }
def LedgerAppliesCardSaid : Prop := Claim7.holds Tryz.pinned (.plain (OpenSpec.ofChange ledgerAppliesSpec)) ledgerAppliesCard

/-- THE SECOND FORM's CARD OF 'tidegatelaw41.LedgerApplies'. -/
def ledgerAppliesUptoCard : Claim7 := { stood := { row := ledgerAppliesUptoRow, standIns := [], harness := (true, "8f4f905f12fa979e3014adfa90d191e1688f7628d62d840113ac5d579d3920d9"), looks := false }, kinds := [], alts := [], laidByText := true, laidKinds := [.data, .data, .data], laidTests := true, laidLooks := .later }
def LedgerAppliesUptoCardSaid : Prop := Claim7.holds Tryz.pinned (.plain (OpenSpec.upto ledgerAppliesSpec)) ledgerAppliesUptoCard
end Rows
end Go.Proofs.YtlofjcicpkfcdaaGreatDoor
