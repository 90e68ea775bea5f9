/- Cheaper steps in a region that draws its order: the frame and the list of what has come up stay written out. Plain laws of the model's orders, no program in sight. -/
import Derived.Test.YtclpglgigpjfoaaDoorReg
namespace Go.Proofs.YtclpglgigpjfoaaDoor
open Go

section
variable {P : Program} {ops : Array Oper} {Q : Exit → Act → World → Prop} {md : Region.Mode} {S : World → Prop}
theorem op_at {i : Nat} {oi : Oper} {rest : List Oper} (hi : ops.toList.drop i = oi :: rest) : ops[i]? = some oi := by
  rw [← Array.getElem?_toList]
  have h : (ops.toList.drop i)[0]? = some oi := by rw [hi]; rfl
  rw [List.getElem?_drop] at h
  simpa using h
theorem wpAnyH_take2 {i d fuel : Nat} {l : List Value} {ds : List Deferred} {listed L : Array Bool} {oi : Oper} {rest : List Oper} {v : Value} {w : World}
    (hi : ops.toList.drop i = oi :: rest) (hd : oi.dst = some d) (hL : listed.setIfInBounds i true = L)
    (hs : Region.noSelect ops = true) (hf : Region.free md ops listed i = true) (hr : (Region.ready md ops listed).contains i = true)
    (hQ : ∀ c a w, Q (.panic c) (a.put (some d) v) w → Q (.panic c) a w) (hw : Region.wanted oi (yielded ops l.toArray) = true)
    (hy : ∀ w, S w → (execOp (Act.eval ⟨l.toArray, ds⟩) oi).run P w = .ok (.value v) w) (hS : S w)
    (h : wpAnyH P md ops Q S fuel L ⟨(l.set d v).toArray, ds⟩ w) : wpAnyH P md ops Q S (fuel + 1) listed ⟨l.toArray, ds⟩ w := by
  subst hL
  refine wpAnyH_take (op_at hi) hs hf hr (by rw [hd]; exact hQ) (Or.inl ⟨hw, hy⟩) hS ?_
  rw [hd]
  simpa [Act.put] using h
theorem wpAnyH_next {i fuel : Nat} {l : List Value} {ds : List Deferred} {listed L : Array Bool} {oi : Oper} {rest : List Oper} {w : World}
    (hi : ops.toList.drop i = oi :: rest) (hL : listed.setIfInBounds i true = L) (hr : Region.ready md ops listed = [i]) (hw : Region.wanted oi (yielded ops l.toArray) = true)
    (h : ∀ K' : Act → World → Prop, Shut (∀ a w, S w → (S w → wpAnyH P md ops Q S fuel L a w) → K' a w) → Oper.wp P oi ⟨l.toArray, ds⟩ w K' Q) : wpAnyH P md ops Q S (fuel + 1) listed ⟨l.toArray, ds⟩ w := by
  subst hL
  refine wpAnyH_ready hr (by simp) (AllReadyH.cons (op_at hi) (fun K hK => ?_) AllReadyH.nil)
  rw [if_pos hw]
  exact h K hK
end
end Go.Proofs.YtclpglgigpjfoaaDoor
