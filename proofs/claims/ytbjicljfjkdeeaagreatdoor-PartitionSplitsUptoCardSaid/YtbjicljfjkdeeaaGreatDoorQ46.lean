/- Part. -/
import Derived.Test.YtbjicljfjkdeeaaGreatDoorRows
import Derived.Deep.DeepHandedRow
import Derived.Test.YtbjicljfjkdeeaaGreatDoorQ02
set_option maxRecDepth 100000
set_option maxHeartbeats 16000000
set_option linter.unusedVariables false
set_option linter.unusedSimpArgs false
namespace Go.Proofs.YtbjicljfjkdeeaaGreatDoor
open Go.Proofs.Tryz Go.RowKit
theorem rF:joinedFacts Tryz.pinned.checked.prog 3 Tryz.f3 (Rows.OpenSpec.upto Rows.partitionSplitsSpec).bare Rows.partitionSplitsUptoRow=true:=by
 simp only[joinedFacts,My]
 repeat' (with_reducible apply And.intro)
 all_goals (as_aux_lemma=>kernel_rfl)
end Go.Proofs.YtbjicljfjkdeeaaGreatDoor
