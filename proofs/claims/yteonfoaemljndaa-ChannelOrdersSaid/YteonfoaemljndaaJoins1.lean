/- One item of a slice, as a slice of its own. -/
import Derived.Test.YteonfoaemljndaaRecv
namespace Go.Proofs.Yteonfoaemljndaa
open Go.RowKit

theorem one_at {W : World} {b o n c k : Nat} {items : List Item} {x : Item} (h : IsItems W (.slice (some ⟨b, o, none⟩) n c) items) (hk : items[k]? = some x) : IsItems W (.slice (some ⟨b, o + k * 7, none⟩) 1 (c - k)) [x] := by
  obtain ⟨A, c', hv, h1, h2, h3⟩ := h
  injection hv with e1 e2 e3
  subst e1 e2 e3
  have hkl := (List.getElem?_eq_some_iff.1 hk).1
  refine ⟨some ⟨b, o + k * 7, none⟩, c - k, rfl, by simp; omega, by omega, fun j y hj => ?_⟩
  cases j with
  | zero =>
    simp at hj; subst hj
    obtain ⟨b', o', hA, hx⟩ := h3 k x hk
    injection hA with hA
    injection hA with e1 e2
    subst e1 e2
    exact ⟨b, o + k * 7, rfl, by simpa using hx⟩
  | succ j => simp at hj
theorem cells2_stay {w W : World} {p1 p2 : Nat × Nat} {v1 v2 : Value} (hb : Below w.heap.size w W) (h : w.cell? ⟨p1.1, p1.2, none⟩ = some v1 ∧ w.cell? ⟨p2.1, p2.2, none⟩ = some v2) : W.cell? ⟨p1.1, p1.2, none⟩ = some v1 ∧ W.cell? ⟨p2.1, p2.2, none⟩ = some v2 :=
  ⟨cell_stays hb h.1, cell_stays hb h.2⟩

end Go.Proofs.Yteonfoaemljndaa
