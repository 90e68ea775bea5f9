/- Part. -/
import Derived.Test.YtbjicljfjkdeeaaGreatDoorCards
import Derived.Test.YtbjicljfjkdeeaaGreatDoorQ48
import Derived.Test.YtbjicljfjkdeeaaGreatDoorTie
set_option maxRecDepth 100000
set_option maxHeartbeats 16000000
set_option linter.unusedVariables false
set_option linter.unusedSimpArgs false
namespace Go.Proofs.YtbjicljfjkdeeaaGreatDoor
open Go.Proofs.Tryz Go.RowKit
section
open Go.ChangeShapes Go.WideShapes Go.ChangeAt Go.RowKit Go.Deep
theorem DZ {P:Program} (h:P.funcs.toList.any Func.goes=false) (c:OpenClaim) (hs:c.start=.entering):false=c.goesBy P:=by
 have h0:=h;rw[OO]at h;have G:∀g:Nat,(P.funcs[g]?).any Func.goes=false:=fun g=>by
  cases e:P.funcs[g]? with
  | none=>rfl
  | some fn=>exact Bool.eq_false_iff.2 (h fn (by simpa using Array.mem_of_getElem? e))
 have z:∀f,P.goes f=false:=fun f=>by
  unfold Program.goes;rw[<-Array.any_toList,h0,Ox,Bool.or_false,OO];exact fun g _=>by rw[G];simp
 unfold OpenClaim.goesBy Program.goesAt Program.goesFrom;rw[hs]
 cases e:P.funcNamed c.func with
 | none=>rfl
 | some f=>simp[z]
theorem splits_card:Rows.PartitionSplitsUptoCardSaid :=
 Claim7.holds_tied_plain_at .later [] [.data,.data,.data,.data,.data] true _ false
  xL (fun _ h=>by cases h) (by as_aux_lemma=>kernel_rfl) (fun _ h=>by cases h) partitionSplitsUpto_row_tie rfl ⟨rfl,rfl⟩ (by as_aux_lemma=>kernel_rfl) rfl
  (fun f fn hf G=>by
   obtain rfl:f=3:=MX ((show prog.funcNamed "tidegate/tidegatelaw20.PartitionSplits"=some 3 by as_aux_lemma=>kernel_rfl).symm.trans hf) |>.symm;obtain rfl:fn=Tryz.f3:=(MX (func3.symm.trans G)).symm;exact⟨by as_aux_lemma=>kernel_rfl,fun j t I=>by
    rw[Tryz.params3]at I;have hm:t∈[33,34]:=by simpa using Array.mem_of_getElem? I
    have z:([33,34].all fun u=>!prog.wantsStandIn u)=true:=by as_aux_lemma=>kernel_rfl
    exact (show prog.wantsStandIn t=false by simpa using List.all_eq_true.1 z t hm)⟩)
  (DZ kr _ rfl)
end
end Go.Proofs.YtbjicljfjkdeeaaGreatDoor
