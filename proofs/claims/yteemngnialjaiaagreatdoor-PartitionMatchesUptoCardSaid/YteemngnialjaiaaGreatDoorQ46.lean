/- Part. -/
import Derived.Test.YteemngnialjaiaaGreatDoorRows
import Derived.Deep.DeepHandedRow
import Derived.Test.YteemngnialjaiaaGreatDoorQ02
set_option maxRecDepth 100000
set_option maxHeartbeats 16000000
set_option linter.unusedVariables false
set_option linter.unusedSimpArgs false
namespace Go.Proofs.YteemngnialjaiaaGreatDoor
open Go.Proofs.Tryz Go.RowKit
theorem xP:joinedFacts Tryz.pinned.checked.prog 3 Tryz.f3 (Rows.OpenSpec.upto Rows.partitionMatchesSpec).bare Rows.partitionMatchesUptoRow=true:=by
 simp only[joinedFacts,ON]
 repeat' (with_reducible apply And.intro)
 all_goals (as_aux_lemma=>kernel_rfl)
end Go.Proofs.YteemngnialjaiaaGreatDoor
