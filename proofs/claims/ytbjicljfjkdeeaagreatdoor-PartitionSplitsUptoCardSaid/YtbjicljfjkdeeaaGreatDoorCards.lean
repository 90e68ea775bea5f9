/-
  DERIVED. GIVEN WITH THE SEED: THE CARDS: each row of YtbjicljfjkdeeaaGreatDoorRows.lean that lists a variable, with what it lists TIED to the program's text (the seventh form; the later family's looks); each row that meets fmt, with fmt's text TOLD by the authors' own Lean function (tested against real Go, not proved from fmt's source: count such statements apart). THE CARD IS WHAT COUNTS. Prove the row's statement (the work); the ties are given (YtbjicljfjkdeeaaGreatDoorTie.lean); close each card by the builder's one call (the guide's Derived/Test/ToyasCard.lean, 'card_holds'). Laid BY PROGRAM, IN A SANDBOX (cutbox-door.mjs). By AI agents, Wed Nov 11 2026. No macro, syntax, notation, axiom, sorry.
-/
import Derived.Test.YtbjicljfjkdeeaaGreatDoorRows
import GoSem.ClaimSeven
namespace Go.Proofs.YtbjicljfjkdeeaaGreatDoor
namespace Rows

/-- THE TIED CARD OF 'tidegatelaw20.PartitionSplits'. -/
def partitionSplitsCard : Claim7 := { stood := { row := partitionSplitsRow, standIns := [], harness := (true, "c58f5d1dd80d9dd3dd2a6af1e11a7ef18361539b32cf26596ff59478eab42022"), looks := false }, kinds := [], alts := [], laidByText := true, laidKinds := [.data, .data, .data, .data, .data], laidTests := true, laidLooks := .later }
def PartitionSplitsCardSaid : Prop := Claim7.holds Tryz.pinned (.plain (OpenSpec.ofChange partitionSplitsSpec)) partitionSplitsCard

/-- THE SECOND FORM's CARD OF 'tidegatelaw20.PartitionSplits'. -/
def partitionSplitsUptoCard : Claim7 := { stood := { row := partitionSplitsUptoRow, standIns := [], harness := (true, "c58f5d1dd80d9dd3dd2a6af1e11a7ef18361539b32cf26596ff59478eab42022"), looks := false }, kinds := [], alts := [], laidByText := true, laidKinds := [.data, .data, .data, .data, .data], laidTests := true, laidLooks := .later }
def PartitionSplitsUptoCardSaid : Prop := Claim7.holds Tryz.pinned (.plain (OpenSpec.upto partitionSplitsSpec)) partitionSplitsUptoCard
end Rows
end Go.Proofs.YtbjicljfjkdeeaaGreatDoor
