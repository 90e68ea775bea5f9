/- Part. -/
import Derived.Test.YtokconodddedhaaGreatDoorQ01
set_option maxRecDepth 100000
set_option maxHeartbeats 16000000
namespace Go.Proofs.YtokconodddedhaaGreatDoor
open Go.Proofs.Tryz Go.RowKit
section
variable {P : Program} {ops : Array Oper} {Q : Exit -> Act -> World -> Prop} {md : Region.Mode} {S : World -> Prop}
theorem ord_S {i d fuel:Nat} {is:List Nat} {l:List Value} {ds:List Deferred} {listed L:Array Bool} {oi:Oper} {rest:List Oper} {w:World}
  (hi:ops.toList.drop i=oi::rest) (hd:oi.dst=some d) (hL:listed.setIfInBounds i true=L)
  (hs:Region.noSelect ops=true) (hf:Region.free md ops listed i=true) (hr:(Region.ready md ops listed).contains i=true)
  (hQ:∀c a w,Q (.panic c) (a.put (some d) undef) w->Q (.panic c) a w) (hw:Region.wanted oi (yielded ops l.toArray)=false) (hS:S w)
  (h:Ord is (wpAnyH P md ops Q S fuel L ⟨(l.set d undef).toArray,ds⟩ w)):Ord (i::is) (wpAnyH P md ops Q S (fuel+1) listed ⟨l.toArray,ds⟩ w) :=
 Hg hi hd hL hs hf hr hQ hw hS h
end
theorem tkS {p q:Prop} (is:List Nat) (h:q) (hq:CU q->Ord is p:=by
  intro hk
  repeat (focus (refine ord_S rfl rfl rfl (by kernel_rfl) (by kernel_rfl) (by kernel_rfl) (fun _ _ _ h=>h) (by kernel_rfl) (by assumption) ?_;simp only[List.setIfInBounds_toArray,List.set_cons_zero,List.set_cons_succ]))
  exact vh hk):p:=hq ⟨h⟩
end Go.Proofs.YtokconodddedhaaGreatDoor
