/- Part. -/
import Derived.Test.YtbjicljfjkdeeaaGreatDoorQ46
import Derived.Test.YtbjicljfjkdeeaaGreatDoorQ47
set_option maxRecDepth 100000
set_option maxHeartbeats 16000000
set_option linter.unusedVariables false
set_option linter.unusedSimpArgs false
namespace Go.Proofs.YtbjicljfjkdeeaaGreatDoor
open Go.Proofs.Tryz Go.RowKit
section
open Go.ChangeShapes Go.WideShapes Go.ChangeAt Go.RowKit Go.Deep
theorem xL:Rows.PartitionSplitsUptoSaid :=
 OpenClaim.holds_of_cond 3 Tryz.f3 rfl rfl rfl rfl rfl rfl rfl ⟨rfl,rfl,rfl,rfl,rfl⟩ rfl rfl rfl rfl rfl kr func3 rF
  (NB kr) (by unfold Func.isWrapper;first|(rw[Mp (by decide +kernel)];kernel_rfl)|(rw[Mo (by decide +kernel)];exact⟨rfl,rfl⟩))
  (fun os started H enc _ F=>by rw[OpenClaim.pre_eq_preRow];exact rQ os started H enc F)
end
end Go.Proofs.YtbjicljfjkdeeaaGreatDoor
