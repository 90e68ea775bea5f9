/-
  No cell of these rows narrows 'for every input' (looked for: loops, veiled, ifaces, maps, wideKeys, modest, calm, conditions, laid).
  DERIVED. THE GIVEN ROWS OF THIS SEAT. 9 by the template 'for every input the law returns true; each argument reads behind the call as it read before'; 0 by the template 'total and deterministic' (their statements: YtgecbjjcjemcgaaTotals.lean).
  GIVEN WITH THE SEED: the statements are not yours to turn. If you find one false, say at which input.
  Laid BY PROGRAM, IN A SANDBOX (cutbox-rows.mjs): the forced cells as the released guide's own fill.sh prints them over the translation be90267c645298b3… (all of the seat's roots in one cut). By AI agents, Wed Nov 11 2026. No macro, syntax, notation, axiom, sorry.
-/
import Derived.Test.YtgecbjjcjemcgaaChecked
import GoSem.Claim
import GoSem.ClaimJoined
import GoSem.ClaimMapViews
import Derived.JoinedTies
import Derived.KernelRfl
namespace Go.Proofs.Ytgecbjjcjemcgaa
/- THE CELL 'sum', in the pinned program and in every row, IS THE sha256 OF THE DUMP (.gsa) THAT YtgecbjjcjemcgaaProg.lean LOADS. Nothing in Lean hashes anything: it is a label: what it is worth is what the hold of that sum in a sandbox is worth. -/
noncomputable def Try.pinned : Pinned := { name := "ytgecbjjcjemcgaa", sum := "be90267c645298b39953bc834ae644584a9be1d292320b61611b9f142cdacb38", checked := Try.checked }
namespace Rows
def none {H : Type} : Left H := { results := [], args := [] }

/-- 'tidegatelaw10.DifferenceSolves': WHATEVER THE INPUT: true; the input reads as it did. -/
def differenceSolvesSpec : ChangeSpec := { name := "differenceSolves", fn := fun _ => fun
  | [d] => { results := [.lit (.bool true)], args := [d] }
  | _ => none }
def differenceSolvesRow : OpenClaim := { program := "ytgecbjjcjemcgaa", sum := "be90267c645298b39953bc834ae644584a9be1d292320b61611b9f142cdacb38", func := "tidegate/tidegatelaw10.DifferenceSolves", spec := "differenceSolves", unfollowed := true, recurses := true, apart := false }
def DifferenceSolvesSaid : Prop := differenceSolvesRow.holds Try.pinned (OpenSpec.ofChange differenceSolvesSpec)

/-- ITS FALSE NEIGHBOUR: 'it returns false'. Refute it at one input. -/
def differenceSolvesWrong : ChangeSpec := { name := "differenceSolves", fn := fun _ => fun
  | [d] => { results := [.lit (.bool false)], args := [d] }
  | _ => none }
def DifferenceSolvesWrongFalsely : Prop := differenceSolvesRow.holds Try.pinned (OpenSpec.ofChange differenceSolvesWrong)

/-- 'tidegatelaw10.DifferenceCloses': WHATEVER THE INPUT: true; the input reads as it did. -/
def differenceClosesSpec : ChangeSpec := { name := "differenceCloses", fn := fun _ => fun
  | [d1, d2] => { results := [.lit (.bool true)], args := [d1, d2] }
  | _ => none }
def differenceClosesRow : OpenClaim := { program := "ytgecbjjcjemcgaa", sum := "be90267c645298b39953bc834ae644584a9be1d292320b61611b9f142cdacb38", func := "tidegate/tidegatelaw10.DifferenceCloses", spec := "differenceCloses", unfollowed := true, recurses := true, apart := false }
def DifferenceClosesSaid : Prop := differenceClosesRow.holds Try.pinned (OpenSpec.ofChange differenceClosesSpec)

/-- ITS FALSE NEIGHBOUR: 'it returns false'. Refute it at one input. -/
def differenceClosesWrong : ChangeSpec := { name := "differenceCloses", fn := fun _ => fun
  | [d1, d2] => { results := [.lit (.bool false)], args := [d1, d2] }
  | _ => none }
def DifferenceClosesWrongFalsely : Prop := differenceClosesRow.holds Try.pinned (OpenSpec.ofChange differenceClosesWrong)

/-- 'tidegatelaw10.DifferenceSpans': WHATEVER THE INPUT: true; the input reads as it did. -/
def differenceSpansSpec : ChangeSpec := { name := "differenceSpans", fn := fun _ => fun
  | [d1, d2] => { results := [.lit (.bool true)], args := [d1, d2] }
  | _ => none }
def differenceSpansRow : OpenClaim := { program := "ytgecbjjcjemcgaa", sum := "be90267c645298b39953bc834ae644584a9be1d292320b61611b9f142cdacb38", func := "tidegate/tidegatelaw10.DifferenceSpans", spec := "differenceSpans", unfollowed := true, recurses := true, apart := false }
def DifferenceSpansSaid : Prop := differenceSpansRow.holds Try.pinned (OpenSpec.ofChange differenceSpansSpec)

/-- ITS FALSE NEIGHBOUR: 'it returns false'. Refute it at one input. -/
def differenceSpansWrong : ChangeSpec := { name := "differenceSpans", fn := fun _ => fun
  | [d1, d2] => { results := [.lit (.bool false)], args := [d1, d2] }
  | _ => none }
def DifferenceSpansWrongFalsely : Prop := differenceSpansRow.holds Try.pinned (OpenSpec.ofChange differenceSpansWrong)

/-- 'tidegatelaw10.DifferenceTight': WHATEVER THE INPUT: true; the input reads as it did. -/
def differenceTightSpec : ChangeSpec := { name := "differenceTight", fn := fun _ => fun
  | [d1, d2] => { results := [.lit (.bool true)], args := [d1, d2] }
  | _ => none }
def differenceTightRow : OpenClaim := { program := "ytgecbjjcjemcgaa", sum := "be90267c645298b39953bc834ae644584a9be1d292320b61611b9f142cdacb38", func := "tidegate/tidegatelaw10.DifferenceTight", spec := "differenceTight", unfollowed := true, recurses := true, apart := false }
def DifferenceTightSaid : Prop := differenceTightRow.holds Try.pinned (OpenSpec.ofChange differenceTightSpec)

/-- ITS FALSE NEIGHBOUR: 'it returns false'. Refute it at one input. -/
def differenceTightWrong : ChangeSpec := { name := "differenceTight", fn := fun _ => fun
  | [d1, d2] => { results := [.lit (.bool false)], args := [d1, d2] }
  | _ => none }
def DifferenceTightWrongFalsely : Prop := differenceTightRow.holds Try.pinned (OpenSpec.ofChange differenceTightWrong)

/-- 'tidegatelaw10.DifferenceProjects': WHATEVER THE INPUT: true; the input reads as it did. -/
def differenceProjectsSpec : ChangeSpec := { name := "differenceProjects", fn := fun _ => fun
  | [d1, d2, d3] => { results := [.lit (.bool true)], args := [d1, d2, d3] }
  | _ => none }
def differenceProjectsRow : OpenClaim := { program := "ytgecbjjcjemcgaa", sum := "be90267c645298b39953bc834ae644584a9be1d292320b61611b9f142cdacb38", func := "tidegate/tidegatelaw10.DifferenceProjects", spec := "differenceProjects", unfollowed := true, recurses := true, apart := false }
def DifferenceProjectsSaid : Prop := differenceProjectsRow.holds Try.pinned (OpenSpec.ofChange differenceProjectsSpec)

/-- ITS FALSE NEIGHBOUR: 'it returns false'. Refute it at one input. -/
def differenceProjectsWrong : ChangeSpec := { name := "differenceProjects", fn := fun _ => fun
  | [d1, d2, d3] => { results := [.lit (.bool false)], args := [d1, d2, d3] }
  | _ => none }
def DifferenceProjectsWrongFalsely : Prop := differenceProjectsRow.holds Try.pinned (OpenSpec.ofChange differenceProjectsWrong)

/-- 'tidegatelaw10.DifferenceChecks': WHATEVER THE INPUT: true; the input reads as it did. -/
def differenceChecksSpec : ChangeSpec := { name := "differenceChecks", fn := fun _ => fun
  | [d1, d2] => { results := [.lit (.bool true)], args := [d1, d2] }
  | _ => none }
def differenceChecksRow : OpenClaim := { program := "ytgecbjjcjemcgaa", sum := "be90267c645298b39953bc834ae644584a9be1d292320b61611b9f142cdacb38", func := "tidegate/tidegatelaw10.DifferenceChecks", spec := "differenceChecks", unfollowed := true, recurses := true, apart := false }
def DifferenceChecksSaid : Prop := differenceChecksRow.holds Try.pinned (OpenSpec.ofChange differenceChecksSpec)

/-- ITS FALSE NEIGHBOUR: 'it returns false'. Refute it at one input. -/
def differenceChecksWrong : ChangeSpec := { name := "differenceChecks", fn := fun _ => fun
  | [d1, d2] => { results := [.lit (.bool false)], args := [d1, d2] }
  | _ => none }
def DifferenceChecksWrongFalsely : Prop := differenceChecksRow.holds Try.pinned (OpenSpec.ofChange differenceChecksWrong)

/-- 'tidegatelaw10.DifferenceDecides': WHATEVER THE INPUT: true; the input reads as it did. -/
def differenceDecidesSpec : ChangeSpec := { name := "differenceDecides", fn := fun _ => fun
  | [d1, d2] => { results := [.lit (.bool true)], args := [d1, d2] }
  | _ => none }
def differenceDecidesRow : OpenClaim := { program := "ytgecbjjcjemcgaa", sum := "be90267c645298b39953bc834ae644584a9be1d292320b61611b9f142cdacb38", func := "tidegate/tidegatelaw10.DifferenceDecides", spec := "differenceDecides", unfollowed := true, recurses := true, apart := false }
def DifferenceDecidesSaid : Prop := differenceDecidesRow.holds Try.pinned (OpenSpec.ofChange differenceDecidesSpec)

/-- ITS FALSE NEIGHBOUR: 'it returns false'. Refute it at one input. -/
def differenceDecidesWrong : ChangeSpec := { name := "differenceDecides", fn := fun _ => fun
  | [d1, d2] => { results := [.lit (.bool false)], args := [d1, d2] }
  | _ => none }
def DifferenceDecidesWrongFalsely : Prop := differenceDecidesRow.holds Try.pinned (OpenSpec.ofChange differenceDecidesWrong)

/-- 'tidegatelaw10.DifferenceCompares': WHATEVER THE INPUT: true; the input reads as it did. -/
def differenceComparesSpec : ChangeSpec := { name := "differenceCompares", fn := fun _ => fun
  | [d1, d2, d3] => { results := [.lit (.bool true)], args := [d1, d2, d3] }
  | _ => none }
def differenceComparesRow : OpenClaim := { program := "ytgecbjjcjemcgaa", sum := "be90267c645298b39953bc834ae644584a9be1d292320b61611b9f142cdacb38", func := "tidegate/tidegatelaw10.DifferenceCompares", spec := "differenceCompares", unfollowed := true, recurses := true, apart := false }
def DifferenceComparesSaid : Prop := differenceComparesRow.holds Try.pinned (OpenSpec.ofChange differenceComparesSpec)

/-- ITS FALSE NEIGHBOUR: 'it returns false'. Refute it at one input. -/
def differenceComparesWrong : ChangeSpec := { name := "differenceCompares", fn := fun _ => fun
  | [d1, d2, d3] => { results := [.lit (.bool false)], args := [d1, d2, d3] }
  | _ => none }
def DifferenceComparesWrongFalsely : Prop := differenceComparesRow.holds Try.pinned (OpenSpec.ofChange differenceComparesWrong)

/-- 'tidegatelaw10.DifferenceRefutes': WHATEVER THE INPUT: true; the input reads as it did. -/
def differenceRefutesSpec : ChangeSpec := { name := "differenceRefutes", fn := fun _ => fun
  | [d1, d2, d3] => { results := [.lit (.bool true)], args := [d1, d2, d3] }
  | _ => none }
def differenceRefutesRow : OpenClaim := { program := "ytgecbjjcjemcgaa", sum := "be90267c645298b39953bc834ae644584a9be1d292320b61611b9f142cdacb38", func := "tidegate/tidegatelaw10.DifferenceRefutes", spec := "differenceRefutes", unfollowed := true, recurses := true, apart := false }
def DifferenceRefutesSaid : Prop := differenceRefutesRow.holds Try.pinned (OpenSpec.ofChange differenceRefutesSpec)

/-- ITS FALSE NEIGHBOUR: 'it returns false'. Refute it at one input. -/
def differenceRefutesWrong : ChangeSpec := { name := "differenceRefutes", fn := fun _ => fun
  | [d1, d2, d3] => { results := [.lit (.bool false)], args := [d1, d2, d3] }
  | _ => none }
def DifferenceRefutesWrongFalsely : Prop := differenceRefutesRow.holds Try.pinned (OpenSpec.ofChange differenceRefutesWrong)

/- THE SECOND FORM. 'bulk': how many values and letters a reading holds, each counted each time it is reached (what is shared counts as often as it is met; a slice's spare places count too). A statement '..UptoSaid' is the law's where the arguments, and the package variables that the reading takes, are together of bulk at most 1048576: NARROWER than '..Said'. Prove '..Said' where nothing that the law and all that it calls make is longer than what came in: it says more and counts as full. Else prove '..UptoSaid'. A law counts once. -/
mutual
def uptoBulk {H : Type} : DataW H → Nat
  | .lit (.string bytes) => bytes.length + 1
  | .lit _ => 1
  | .nil => 1
  | .ptr d => uptoBulk d + 1
  | .slice elems spare => uptoBulkAll elems + uptoBulkAll spare + 1
  | .agg parts => uptoBulkAll parts + 1
  | .iface _ d => uptoBulk d + 1
  | .map entries => uptoBulkEntries entries + 1
  | .held _ => 1
def uptoBulkAll {H : Type} : List (DataW H) → Nat
  | [] => 0
  | d :: r => uptoBulk d + uptoBulkAll r
def uptoBulkEntries {H : Type} : List (Lit × DataW H) → Nat
  | [] => 0
  | x :: r => uptoBulkEntry x + uptoBulkEntries r
def uptoBulkEntry {H : Type} : Lit × DataW H → Nat
  | (.string bytes, d) => bytes.length + uptoBulk d + 1
  | (_, d) => uptoBulk d + 1
 end
def uptoSmall : (H : Type) → List (DataW H) → Bool := fun _ ds => decide (uptoBulkAll ds ≤ 1048576)
def OpenSpec.upto (s : _root_.Go.ChangeSpec) : _root_.Go.OpenSpec := { _root_.Go.OpenSpec.ofChange s with cond := some uptoSmall }

/-- 'tidegatelaw10.DifferenceSolves', WHERE WHAT IT READS IS OF BULK AT MOST 1048576: true; the input reads as it did. -/
def differenceSolvesUptoRow : OpenClaim := { program := "ytgecbjjcjemcgaa", sum := "be90267c645298b39953bc834ae644584a9be1d292320b61611b9f142cdacb38", func := "tidegate/tidegatelaw10.DifferenceSolves", spec := "differenceSolves", unfollowed := true, recurses := true, apart := false, narrowed := true }
def DifferenceSolvesUptoSaid : Prop := differenceSolvesUptoRow.holds Try.pinned (OpenSpec.upto differenceSolvesSpec)

/-- 'tidegatelaw10.DifferenceCloses', WHERE WHAT IT READS IS OF BULK AT MOST 1048576: true; the input reads as it did. -/
def differenceClosesUptoRow : OpenClaim := { program := "ytgecbjjcjemcgaa", sum := "be90267c645298b39953bc834ae644584a9be1d292320b61611b9f142cdacb38", func := "tidegate/tidegatelaw10.DifferenceCloses", spec := "differenceCloses", unfollowed := true, recurses := true, apart := false, narrowed := true }
def DifferenceClosesUptoSaid : Prop := differenceClosesUptoRow.holds Try.pinned (OpenSpec.upto differenceClosesSpec)

/-- 'tidegatelaw10.DifferenceSpans', WHERE WHAT IT READS IS OF BULK AT MOST 1048576: true; the input reads as it did. -/
def differenceSpansUptoRow : OpenClaim := { program := "ytgecbjjcjemcgaa", sum := "be90267c645298b39953bc834ae644584a9be1d292320b61611b9f142cdacb38", func := "tidegate/tidegatelaw10.DifferenceSpans", spec := "differenceSpans", unfollowed := true, recurses := true, apart := false, narrowed := true }
def DifferenceSpansUptoSaid : Prop := differenceSpansUptoRow.holds Try.pinned (OpenSpec.upto differenceSpansSpec)

/-- 'tidegatelaw10.DifferenceTight', WHERE WHAT IT READS IS OF BULK AT MOST 1048576: true; the input reads as it did. -/
def differenceTightUptoRow : OpenClaim := { program := "ytgecbjjcjemcgaa", sum := "be90267c645298b39953bc834ae644584a9be1d292320b61611b9f142cdacb38", func := "tidegate/tidegatelaw10.DifferenceTight", spec := "differenceTight", unfollowed := true, recurses := true, apart := false, narrowed := true }
def DifferenceTightUptoSaid : Prop := differenceTightUptoRow.holds Try.pinned (OpenSpec.upto differenceTightSpec)

/-- 'tidegatelaw10.DifferenceProjects', WHERE WHAT IT READS IS OF BULK AT MOST 1048576: true; the input reads as it did. -/
def differenceProjectsUptoRow : OpenClaim := { program := "ytgecbjjcjemcgaa", sum := "be90267c645298b39953bc834ae644584a9be1d292320b61611b9f142cdacb38", func := "tidegate/tidegatelaw10.DifferenceProjects", spec := "differenceProjects", unfollowed := true, recurses := true, apart := false, narrowed := true }
def DifferenceProjectsUptoSaid : Prop := differenceProjectsUptoRow.holds Try.pinned (OpenSpec.upto differenceProjectsSpec)

/-- 'tidegatelaw10.DifferenceChecks', WHERE WHAT IT READS IS OF BULK AT MOST 1048576: true; the input reads as it did. -/
def differenceChecksUptoRow : OpenClaim := { program := "ytgecbjjcjemcgaa", sum := "be90267c645298b39953bc834ae644584a9be1d292320b61611b9f142cdacb38", func := "tidegate/tidegatelaw10.DifferenceChecks", spec := "differenceChecks", unfollowed := true, recurses := true, apart := false, narrowed := true }
def DifferenceChecksUptoSaid : Prop := differenceChecksUptoRow.holds Try.pinned (OpenSpec.upto differenceChecksSpec)

/-- 'tidegatelaw10.DifferenceDecides', WHERE WHAT IT READS IS OF BULK AT MOST 1048576: true; the input reads as it did. -/
def differenceDecidesUptoRow : OpenClaim := { program := "ytgecbjjcjemcgaa", sum := "be90267c645298b39953bc834ae644584a9be1d292320b61611b9f142cdacb38", func := "tidegate/tidegatelaw10.DifferenceDecides", spec := "differenceDecides", unfollowed := true, recurses := true, apart := false, narrowed := true }
def DifferenceDecidesUptoSaid : Prop := differenceDecidesUptoRow.holds Try.pinned (OpenSpec.upto differenceDecidesSpec)

/-- 'tidegatelaw10.DifferenceCompares', WHERE WHAT IT READS IS OF BULK AT MOST 1048576: true; the input reads as it did. -/
def differenceComparesUptoRow : OpenClaim := { program := "ytgecbjjcjemcgaa", sum := "be90267c645298b39953bc834ae644584a9be1d292320b61611b9f142cdacb38", func := "tidegate/tidegatelaw10.DifferenceCompares", spec := "differenceCompares", unfollowed := true, recurses := true, apart := false, narrowed := true }
def DifferenceComparesUptoSaid : Prop := differenceComparesUptoRow.holds Try.pinned (OpenSpec.upto differenceComparesSpec)

/-- 'tidegatelaw10.DifferenceRefutes', WHERE WHAT IT READS IS OF BULK AT MOST 1048576: true; the input reads as it did. -/
def differenceRefutesUptoRow : OpenClaim := { program := "ytgecbjjcjemcgaa", sum := "be90267c645298b39953bc834ae644584a9be1d292320b61611b9f142cdacb38", func := "tidegate/tidegatelaw10.DifferenceRefutes", spec := "differenceRefutes", unfollowed := true, recurses := true, apart := false, narrowed := true }
def DifferenceRefutesUptoSaid : Prop := differenceRefutesUptoRow.holds Try.pinned (OpenSpec.upto differenceRefutesSpec)

end Rows
end Go.Proofs.Ytgecbjjcjemcgaa
