/-
  DERIVED. GIVEN WITH THE SEED: THE CARDS: each row of YtokconodddedhaaGreatDoorRows.lean that lists a variable, with what it lists TIED to the program's text (the seventh form; the later family's looks); each row that meets fmt, with fmt's text TOLD by the authors' own Lean function (tested against real Go, not proved from fmt's source: count such statements apart). THE CARD IS WHAT COUNTS. Prove the row's statement (the work); the ties are given (YtokconodddedhaaGreatDoorTie.lean); close each card by the builder's one call (the guide's Derived/Test/ToyasCard.lean, 'card_holds'). Laid BY PROGRAM, IN A SANDBOX (cutbox-door.mjs). By AI agents, Wed Nov 11 2026. No macro, syntax, notation, axiom, sorry.
-/
import Derived.Test.YtokconodddedhaaGreatDoorRows
import GoSem.ClaimSeven
namespace Go.Proofs.YtokconodddedhaaGreatDoor
namespace Rows

/-- THE TIED CARD OF 'tidegatelaw20.PartitionMatches'. -/
def partitionMatchesCard : Claim7 := { stood := { row := partitionMatchesRow, standIns := [], harness := (true, "e50a5b263a88b502602808e9e4c2f6659d6beda11e3d1dbbf2fcf74646a6632a"), looks := false }, kinds := [], alts := [], laidByText := true, laidKinds := [.data, .data, .data, .data, .data], laidTests := true, laidLooks := .later }
def PartitionMatchesCardSaid : Prop := Claim7.holds Tryz.pinned (.plain (OpenSpec.ofChange partitionMatchesSpec)) partitionMatchesCard

/-- THE TIED CARD OF 'tidegatelaw20.PartitionRows'. -/
def partitionRowsCard : Claim7 := { stood := { row := partitionRowsRow, standIns := [], harness := (true, "e50a5b263a88b502602808e9e4c2f6659d6beda11e3d1dbbf2fcf74646a6632a"), looks := false }, kinds := [], alts := [], laidByText := true, laidKinds := [.data, .data, .data, .data, .data], laidTests := true, laidLooks := .later }
def PartitionRowsCardSaid : Prop := Claim7.holds Tryz.pinned (.plain (OpenSpec.ofChange partitionRowsSpec)) partitionRowsCard

/-- THE TIED CARD OF 'tidegatelaw20.PartitionSplits'. -/
def partitionSplitsCard : Claim7 := { stood := { row := partitionSplitsRow, standIns := [], harness := (true, "e50a5b263a88b502602808e9e4c2f6659d6beda11e3d1dbbf2fcf74646a6632a"), looks := false }, kinds := [], alts := [], laidByText := true, laidKinds := [.data, .data, .data, .data, .data], laidTests := true, laidLooks := .later }
def PartitionSplitsCardSaid : Prop := Claim7.holds Tryz.pinned (.plain (OpenSpec.ofChange partitionSplitsSpec)) partitionSplitsCard

/-- THE TIED CARD OF 'tidegatelaw20.PartitionKeys'. -/
def partitionKeysCard : Claim7 := { stood := { row := partitionKeysRow, standIns := [], harness := (true, "e50a5b263a88b502602808e9e4c2f6659d6beda11e3d1dbbf2fcf74646a6632a"), looks := false }, kinds := [], alts := [], laidByText := true, laidKinds := [.data, .data, .data, .data, .data], laidTests := true, laidLooks := .later }
def PartitionKeysCardSaid : Prop := Claim7.holds Tryz.pinned (.plain (OpenSpec.ofChange partitionKeysSpec)) partitionKeysCard

/-- THE SECOND FORM's CARD OF 'tidegatelaw20.PartitionMatches'. -/
def partitionMatchesUptoCard : Claim7 := { stood := { row := partitionMatchesUptoRow, standIns := [], harness := (true, "e50a5b263a88b502602808e9e4c2f6659d6beda11e3d1dbbf2fcf74646a6632a"), looks := false }, kinds := [], alts := [], laidByText := true, laidKinds := [.data, .data, .data, .data, .data], laidTests := true, laidLooks := .later }
def PartitionMatchesUptoCardSaid : Prop := Claim7.holds Tryz.pinned (.plain (OpenSpec.upto partitionMatchesSpec)) partitionMatchesUptoCard

/-- THE SECOND FORM's CARD OF 'tidegatelaw20.PartitionRows'. -/
def partitionRowsUptoCard : Claim7 := { stood := { row := partitionRowsUptoRow, standIns := [], harness := (true, "e50a5b263a88b502602808e9e4c2f6659d6beda11e3d1dbbf2fcf74646a6632a"), looks := false }, kinds := [], alts := [], laidByText := true, laidKinds := [.data, .data, .data, .data, .data], laidTests := true, laidLooks := .later }
def PartitionRowsUptoCardSaid : Prop := Claim7.holds Tryz.pinned (.plain (OpenSpec.upto partitionRowsSpec)) partitionRowsUptoCard

/-- THE SECOND FORM's CARD OF 'tidegatelaw20.PartitionSplits'. -/
def partitionSplitsUptoCard : Claim7 := { stood := { row := partitionSplitsUptoRow, standIns := [], harness := (true, "e50a5b263a88b502602808e9e4c2f6659d6beda11e3d1dbbf2fcf74646a6632a"), looks := false }, kinds := [], alts := [], laidByText := true, laidKinds := [.data, .data, .data, .data, .data], laidTests := true, laidLooks := .later }
def PartitionSplitsUptoCardSaid : Prop := Claim7.holds Tryz.pinned (.plain (OpenSpec.upto partitionSplitsSpec)) partitionSplitsUptoCard

/-- THE SECOND FORM's CARD OF 'tidegatelaw20.PartitionKeys'. -/
def partitionKeysUptoCard : Claim7 := { stood := { row := partitionKeysUptoRow, standIns := [], harness := (true, "e50a5b263a88b502602808e9e4c2f6659d6beda11e3d1dbbf2fcf74646a6632a"), looks := false }, kinds := [], alts := [], laidByText := true, laidKinds := [.data, .data, .data, .data, .data], laidTests := true, laidLooks := .later }
def PartitionKeysUptoCardSaid : Prop := Claim7.holds Tryz.pinned (.plain (OpenSpec.upto partitionKeysSpec)) partitionKeysUptoCard
end Rows
end Go.Proofs.YtokconodddedhaaGreatDoor
