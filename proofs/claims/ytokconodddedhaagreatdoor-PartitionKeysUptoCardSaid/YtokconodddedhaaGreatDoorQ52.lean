/- The law PartitionKeys, second form: Keys and Stream return the results or errors of the reference for all queries, lists of events and values. Conditions: the statement's own (what the call reads is of bulk at most 1048576; the tables that the row names are laid). -/
import Derived.Test.YtokconodddedhaaGreatDoorCards
import Derived.Test.YtokconodddedhaaGreatDoorQ51
import Derived.Test.YtokconodddedhaaGreatDoorTie
set_option maxRecDepth 100000
set_option maxHeartbeats 16000000
set_option linter.unusedVariables false
set_option linter.unusedSimpArgs false
namespace Go.Proofs.YtokconodddedhaaGreatDoor
open Go.Proofs.Tryz Go.RowKit
section
open Go.ChangeShapes Go.WideShapes Go.ChangeAt Go.RowKit Go.Deep
theorem BT {P:Program} (h:P.funcs.toList.any Func.goes=false) (c:OpenClaim) (hs:c.start=.entering):false=c.goesBy P:=by
 have h0:=h;rw[MS]at h;have z:∀g:Nat,(P.funcs[g]?).any Func.goes=false:=fun g=>by
  cases e:P.funcs[g]? with
  | none=>rfl
  | some fn=>exact Bool.eq_false_iff.2 (h fn (by simpa using Array.mem_of_getElem? e))
 have D:∀f,P.goes f=false:=fun f=>by
  unfold Program.goes;rw[<-Array.any_toList,h0,MI,Bool.or_false,MS];exact fun g _=>by rw[z];simp
 unfold OpenClaim.goesBy Program.goesAt Program.goesFrom;rw[hs]
 cases e:P.funcNamed c.func with
 | none=>rfl
 | some f=>simp[D]
theorem keys_card:Rows.PartitionKeysUptoCardSaid :=
 Claim7.holds_tied_plain_at .later [] [.data,.data,.data,.data,.data] true _ false
  DW (fun _ h=>by cases h) (by as_aux_lemma=>kernel_rfl) (fun _ h=>by cases h) partitionKeysUpto_row_tie rfl ⟨rfl,rfl⟩ (by as_aux_lemma=>kernel_rfl) rfl
  (fun f fn hf D=>by
   obtain rfl:f=6:=LK ((show prog.funcNamed "tidegate/tidegatelaw20.PartitionKeys"=some 6 by as_aux_lemma=>kernel_rfl).symm.trans hf) |>.symm;obtain rfl:fn=Tryz.f6:=(LK (func6.symm.trans D)).symm;exact⟨by as_aux_lemma=>kernel_rfl,fun j t F=>by
    rw[Tryz.params6]at F;have hm:t∈[33,34,27]:=by simpa using Array.mem_of_getElem? F
    have z:([33,34,27].all fun u=>!prog.wantsStandIn u)=true:=by as_aux_lemma=>kernel_rfl
    exact (show prog.wantsStandIn t=false by simpa using List.all_eq_true.1 z t hm)⟩)
  (BT kr _ rfl)
end
end Go.Proofs.YtokconodddedhaaGreatDoor
