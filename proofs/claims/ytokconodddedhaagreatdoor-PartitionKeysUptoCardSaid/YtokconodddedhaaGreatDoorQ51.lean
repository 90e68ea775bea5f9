/- Part. -/
import Derived.Test.YtokconodddedhaaGreatDoorQ49
import Derived.Test.YtokconodddedhaaGreatDoorQ50
set_option maxRecDepth 100000
set_option maxHeartbeats 16000000
set_option linter.unusedVariables false
set_option linter.unusedSimpArgs false
namespace Go.Proofs.YtokconodddedhaaGreatDoor
open Go.Proofs.Tryz Go.RowKit
section
open Go.ChangeShapes Go.WideShapes Go.ChangeAt Go.RowKit Go.Deep
theorem DW:Rows.PartitionKeysUptoSaid :=
 OpenClaim.holds_of_cond 6 Tryz.f6 rfl rfl rfl rfl rfl rfl rfl ⟨rfl,rfl,rfl,rfl,rfl⟩ rfl rfl rfl rfl rfl kr func6 xb
  (MA kr) (by unfold Func.isWrapper;first|(rw[K7 (by decide +kernel)];kernel_rfl)|(rw[K6 (by decide +kernel)];exact⟨rfl,rfl⟩))
  (fun os started H enc _ F=>by rw[OpenClaim.pre_eq_preRow];exact xV os started H enc F)
end
end Go.Proofs.YtokconodddedhaaGreatDoor
