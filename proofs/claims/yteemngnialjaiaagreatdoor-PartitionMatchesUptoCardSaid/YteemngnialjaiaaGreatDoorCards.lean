/-
  DERIVED. GIVEN WITH THE SEED: THE CARDS: each row of YteemngnialjaiaaGreatDoorRows.lean that lists a variable, with what it lists TIED to the program's text (the seventh form; the later family's looks); each row that meets fmt, with fmt's text TOLD by the authors' own Lean function (tested against real Go, not proved from fmt's source: count such statements apart). THE CARD IS WHAT COUNTS. Prove the row's statement (the work); the ties are given (YteemngnialjaiaaGreatDoorTie.lean); close each card by the builder's one call (the guide's Derived/Test/ToyasCard.lean, 'card_holds'). Laid BY PROGRAM, IN A SANDBOX (cutbox-door.mjs). By AI agents, Wed Nov 11 2026. No macro, syntax, notation, axiom, sorry.
-/
import Derived.Test.YteemngnialjaiaaGreatDoorRows
import GoSem.ClaimSeven
namespace Go.Proofs.YteemngnialjaiaaGreatDoor
namespace Rows

/-- THE TIED CARD OF 'tidegatelaw20.PartitionMatches'. -/
def partitionMatchesCard : Claim7 := { stood := { row := partitionMatchesRow, standIns := [], harness := (true, "04a73340e4608339f1f6c12d87409ac40eba607618828883bdae194dd288e8e9"), looks := false }, kinds := [], alts := [], laidByText := true, laidKinds := [.data, .data, .data, .data, .data], laidTests := true, laidLooks := .later }
def PartitionMatchesCardSaid : Prop := Claim7.holds Tryz.pinned (.plain (OpenSpec.ofChange partitionMatchesSpec)) partitionMatchesCard

/-- THE TIED CARD OF 'tidegatelaw20.PartitionResults'. -/
def partitionResultsCard : Claim7 := { stood := { row := partitionResultsRow, standIns := [], harness := (true, "04a73340e4608339f1f6c12d87409ac40eba607618828883bdae194dd288e8e9"), looks := false }, kinds := [], alts := [], laidByText := true, laidKinds := [.data, .data, .data, .data, .data], laidTests := true, laidLooks := .later }
def PartitionResultsCardSaid : Prop := Claim7.holds Tryz.pinned (.plain (OpenSpec.ofChange partitionResultsSpec)) partitionResultsCard

/-- THE TIED CARD OF 'tidegatelaw20.PartitionRows'. -/
def partitionRowsCard : Claim7 := { stood := { row := partitionRowsRow, standIns := [], harness := (true, "04a73340e4608339f1f6c12d87409ac40eba607618828883bdae194dd288e8e9"), looks := false }, kinds := [], alts := [], laidByText := true, laidKinds := [.data, .data, .data, .data, .data], laidTests := true, laidLooks := .later }
def PartitionRowsCardSaid : Prop := Claim7.holds Tryz.pinned (.plain (OpenSpec.ofChange partitionRowsSpec)) partitionRowsCard

/-- THE SECOND FORM's CARD OF 'tidegatelaw20.PartitionMatches'. -/
def partitionMatchesUptoCard : Claim7 := { stood := { row := partitionMatchesUptoRow, standIns := [], harness := (true, "04a73340e4608339f1f6c12d87409ac40eba607618828883bdae194dd288e8e9"), looks := false }, kinds := [], alts := [], laidByText := true, laidKinds := [.data, .data, .data, .data, .data], laidTests := true, laidLooks := .later }
def PartitionMatchesUptoCardSaid : Prop := Claim7.holds Tryz.pinned (.plain (OpenSpec.upto partitionMatchesSpec)) partitionMatchesUptoCard

/-- THE SECOND FORM's CARD OF 'tidegatelaw20.PartitionResults'. -/
def partitionResultsUptoCard : Claim7 := { stood := { row := partitionResultsUptoRow, standIns := [], harness := (true, "04a73340e4608339f1f6c12d87409ac40eba607618828883bdae194dd288e8e9"), looks := false }, kinds := [], alts := [], laidByText := true, laidKinds := [.data, .data, .data, .data, .data], laidTests := true, laidLooks := .later }
def PartitionResultsUptoCardSaid : Prop := Claim7.holds Tryz.pinned (.plain (OpenSpec.upto partitionResultsSpec)) partitionResultsUptoCard

/-- THE SECOND FORM's CARD OF 'tidegatelaw20.PartitionRows'. -/
def partitionRowsUptoCard : Claim7 := { stood := { row := partitionRowsUptoRow, standIns := [], harness := (true, "04a73340e4608339f1f6c12d87409ac40eba607618828883bdae194dd288e8e9"), looks := false }, kinds := [], alts := [], laidByText := true, laidKinds := [.data, .data, .data, .data, .data], laidTests := true, laidLooks := .later }
def PartitionRowsUptoCardSaid : Prop := Claim7.holds Tryz.pinned (.plain (OpenSpec.upto partitionRowsSpec)) partitionRowsUptoCard
end Rows
end Go.Proofs.YteemngnialjaiaaGreatDoor
