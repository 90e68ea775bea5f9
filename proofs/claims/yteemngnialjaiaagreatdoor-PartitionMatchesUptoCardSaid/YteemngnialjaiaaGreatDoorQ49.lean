/- Part. -/
import Derived.Test.YteemngnialjaiaaGreatDoorCards
import Derived.Test.YteemngnialjaiaaGreatDoorQ48
import Derived.Test.YteemngnialjaiaaGreatDoorTie
set_option maxRecDepth 100000
set_option maxHeartbeats 16000000
set_option linter.unusedVariables false
set_option linter.unusedSimpArgs false
namespace Go.Proofs.YteemngnialjaiaaGreatDoor
open Go.Proofs.Tryz Go.RowKit
open Go.ChangeShapes Go.WideShapes Go.ChangeAt Go.RowKit Go.Deep
theorem mats_card:Rows.PartitionMatchesUptoCardSaid :=
 Claim7.holds_tied_plain_at .later [] [.data,.data,.data,.data,.data] true _ false
  Eb (fun _ h=>by cases h) (by as_aux_lemma=>kernel_rfl) (fun _ h=>by cases h) partitionMatchesUpto_row_tie rfl ⟨rfl,rfl⟩ (by as_aux_lemma=>kernel_rfl) rfl
  (fun f fn hf J=>by
   obtain rfl:f=3:=Pn ((show prog.funcNamed "tidegate/tidegatelaw20.PartitionMatches"=some 3 by as_aux_lemma=>kernel_rfl).symm.trans hf) |>.symm;obtain rfl:fn=Tryz.f3:=(Pn (func3.symm.trans J)).symm;exact⟨by as_aux_lemma=>kernel_rfl,fun j t Z=>by
    rw[Tryz.params3]at Z;have hm:t∈[33,34]:=by simpa using Array.mem_of_getElem? Z
    have I:([33,34].all fun u=>!prog.wantsStandIn u)=true:=by as_aux_lemma=>kernel_rfl
    exact (show prog.wantsStandIn t=false by simpa using List.all_eq_true.1 I t hm)⟩)
  (by as_aux_lemma=>kernel_rfl)
end Go.Proofs.YteemngnialjaiaaGreatDoor
