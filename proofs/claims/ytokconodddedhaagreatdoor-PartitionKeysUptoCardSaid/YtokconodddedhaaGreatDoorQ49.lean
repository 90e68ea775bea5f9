/- Part. -/
import Derived.Test.YtokconodddedhaaGreatDoorRows
import Derived.Deep.DeepHandedRow
import Derived.Test.YtokconodddedhaaGreatDoorQ01
set_option maxRecDepth 100000
set_option maxHeartbeats 16000000
set_option linter.unusedVariables false
set_option linter.unusedSimpArgs false
namespace Go.Proofs.YtokconodddedhaaGreatDoor
open Go.Proofs.Tryz Go.RowKit
theorem xb:joinedFacts Tryz.pinned.checked.prog 6 Tryz.f6 (Rows.OpenSpec.upto Rows.partitionKeysSpec).bare Rows.partitionKeysUptoRow=true:=by
 simp only[joinedFacts,Lp]
 repeat' (with_reducible apply And.intro)
 all_goals (as_aux_lemma=>kernel_rfl)
end Go.Proofs.YtokconodddedhaaGreatDoor
