/-
  DERIVED. GIVEN WITH THE SEED: THE CARDS: each row of YtclpglgigpjfoaaDoorRows.lean that lists a variable, with what it lists TIED to the program's text (the seventh form; the later family's looks); each row that meets fmt, with fmt's text TOLD by the authors' own Lean function (tested against real Go, not proved from fmt's source: count such statements apart). THE CARD IS WHAT COUNTS. Prove the row's statement (the work); the ties are given (YtclpglgigpjfoaaDoorTie.lean); close each card by the builder's one call (the guide's Derived/Test/ToyasCard.lean, 'card_holds'). Laid BY PROGRAM, IN A SANDBOX (cutbox-door.mjs). By AI agents, Wed Nov 11 2026. No macro, syntax, notation, axiom, sorry.
-/
import Derived.Test.YtclpglgigpjfoaaDoorRows
import GoSem.ClaimSeven
namespace Go.Proofs.YtclpglgigpjfoaaDoor
namespace Rows

/-- THE TIED CARD OF 'tidegatelaw17.MatchNames'. -/
def matchNamesCard : Claim7 := { stood := { row := matchNamesRow, standIns := [], harness := (true, "d67d0643992da16aa1eb299ffe85574562f483324667986a44a0c2510686dd7e"), looks := false }, kinds := [], alts := [], laidByText := true, laidKinds := [.data, .data, .data], laidTests := true, laidLooks := .later }
def MatchNamesCardSaid : Prop := Claim7.holds Tryd.pinned (.plain (OpenSpec.ofChange matchNamesSpec)) matchNamesCard

/-- THE TIED CARD OF 'tidegatelaw17.MatchOrders'. -/
def matchOrdersCard : Claim7 := { stood := { row := matchOrdersRow, standIns := [], harness := (true, "d67d0643992da16aa1eb299ffe85574562f483324667986a44a0c2510686dd7e"), looks := false }, kinds := [], alts := [], laidByText := true, laidKinds := [.data, .data, .data], laidTests := true, laidLooks := .later }
def MatchOrdersCardSaid : Prop := Claim7.holds Tryd.pinned (.plain (OpenSpec.ofChange matchOrdersSpec)) matchOrdersCard

/-- THE SECOND FORM's CARD OF 'tidegatelaw17.MatchNames'. -/
def matchNamesUptoCard : Claim7 := { stood := { row := matchNamesUptoRow, standIns := [], harness := (true, "d67d0643992da16aa1eb299ffe85574562f483324667986a44a0c2510686dd7e"), looks := false }, kinds := [], alts := [], laidByText := true, laidKinds := [.data, .data, .data], laidTests := true, laidLooks := .later }
def MatchNamesUptoCardSaid : Prop := Claim7.holds Tryd.pinned (.plain (OpenSpec.upto matchNamesSpec)) matchNamesUptoCard

/-- THE SECOND FORM's CARD OF 'tidegatelaw17.MatchOrders'. -/
def matchOrdersUptoCard : Claim7 := { stood := { row := matchOrdersUptoRow, standIns := [], harness := (true, "d67d0643992da16aa1eb299ffe85574562f483324667986a44a0c2510686dd7e"), looks := false }, kinds := [], alts := [], laidByText := true, laidKinds := [.data, .data, .data], laidTests := true, laidLooks := .later }
def MatchOrdersUptoCardSaid : Prop := Claim7.holds Tryd.pinned (.plain (OpenSpec.upto matchOrdersSpec)) matchOrdersUptoCard
end Rows
end Go.Proofs.YtclpglgigpjfoaaDoor
