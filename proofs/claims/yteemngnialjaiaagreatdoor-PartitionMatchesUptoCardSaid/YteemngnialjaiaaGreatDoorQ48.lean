/- Part. -/
import Derived.Test.YteemngnialjaiaaGreatDoorQ46
import Derived.Test.YteemngnialjaiaaGreatDoorQ47
set_option maxRecDepth 100000
set_option maxHeartbeats 16000000
set_option linter.unusedVariables false
set_option linter.unusedSimpArgs false
namespace Go.Proofs.YteemngnialjaiaaGreatDoor
open Go.Proofs.Tryz Go.RowKit
open Go.ChangeShapes Go.WideShapes Go.ChangeAt Go.RowKit Go.Deep
theorem Eb:Rows.PartitionMatchesUptoSaid :=
 OpenClaim.holds_of_cond 3 Tryz.f3 rfl rfl rfl rfl rfl rfl rfl ⟨rfl,rfl,rfl,rfl,rfl⟩ rfl rfl rfl rfl rfl kr func3 xP
  (Pe kr) (by unfold Func.isWrapper;first|(rw[OG (by decide +kernel)];kernel_rfl)|(rw[OF (by decide +kernel)];exact⟨rfl,rfl⟩))
  (fun os started H enc _ F=>by rw[OpenClaim.pre_eq_preRow];exact ze os started H enc F)
end Go.Proofs.YteemngnialjaiaaGreatDoor
