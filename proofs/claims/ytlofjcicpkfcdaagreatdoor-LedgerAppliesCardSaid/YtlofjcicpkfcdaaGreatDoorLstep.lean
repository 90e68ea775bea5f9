/- A call of a function of one argument at a step of a region that draws its order. -/
import Derived.Test.YtlofjcicpkfcdaaGreatDoorLdiff
import Derived.Deep.RegionLaw
namespace Go.Proofs.YtlofjcicpkfcdaaGreatDoor
open Go.RowKit

theorem step_call1 {P : Program} (w : World) {ops : Array Oper} {o : Oper} {a : Act} {K : Act → World → Prop} {Q : Exit → Act → World → Prop} {E : Prop} (hgd : o.guard = none) (f : FuncId) (x : Operand) (t : TypeId)
    (ho : o.op = .call { callee := .value (.func f), args := #[x], argTypes := #[t] }) (u : Value) (hx : a.eval x = u) (hf : ∀ args w, (callFunc f args).run P w = .ok (.enter f args) w)
    (h : Calls P f #[u] w fun e w' => ∃ v, e = .returned v ∧ K (a.put o.dst v) w') :
    if Region.wanted o (yielded ops a.tmps) = true then Oper.wp P o a w K Q else E := by
  have hw : Region.wanted o (yielded ops a.tmps) = true := by simp [Region.wanted, hgd]
  rw [if_pos hw]
  unfold Oper.wp
  have hfn : a.eval (.func f) = .func (.func f) #[] #[] := rfl
  have hr : (execOp a.eval o).run P w = Result.ok (Next.enter f #[u]) w := by
    unfold execOp
    simp [ho, resolve, invoke, hx, hf, hfn, Deferred.ofValue]
  rw [hr]
  exact h.mono fun e w' ⟨v, he, hK⟩ => by subst he; exact hK
theorem enter_own (args : Array Value) (W : World) : (callFunc 29 args).run Tryz.prog W = .ok (.enter 29 args) W := enters_of Tryz.func29 (by kernel_rfl) rfl args W
end Go.Proofs.YtlofjcicpkfcdaaGreatDoor
