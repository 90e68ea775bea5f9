/- What the laws share: small ledgers have no error; lists of ledgers in a new block. -/
import Derived.Test.YtlofjcicpkfcdaaGreatDoorLsmall
import Derived.Test.YtlofjcicpkfcdaaGreatDoorLpl2
namespace Go.Proofs.YtlofjcicpkfcdaaGreatDoor
open Go.RowKit

theorem small_of {l : List Ety} (h : badL l = false) : Small l := by
  unfold badL at h
  simp only [Bool.or_eq_false_iff, Bool.not_eq_false'] at h
  obtain ⟨⟨h1, h2⟩, h3⟩ := h
  refine ⟨by simpa using h2, (fewL_parts h1).1, fun x hx => ?_⟩
  rw [List.any_eq_false] at h3
  have := h3 x hx
  unfold bigN at this
  simp only [Bool.or_eq_true, decide_eq_true_eq] at this
  unfold absI
  split <;> omega
theorem leds_three {w : World} {b : Nat} {va vb vc : Value} {x y z : List Ety} (h0 : w.cell? ⟨b, 0, none⟩ = some va) (h1 : w.cell? ⟨b, 1, none⟩ = some vb) (h2 : w.cell? ⟨b, 2, none⟩ = some vc) (ha : IsEnts w va x) (hb : IsEnts w vb y) (hc : IsEnts w vc z) : IsLeds w (.slice (some ⟨b, 0, none⟩) 3 3) [x, y, z] :=
  ⟨_, 3, rfl, Nat.le_refl _, by decide, fun k u hk => ⟨b, 0, rfl, by
    match k, hk with
    | 0, hk => simp at hk; subst hk; exact ⟨va, ha, h0⟩
    | 1, hk => simp at hk; subst hk; exact ⟨vb, hb, h1⟩
    | 2, hk => simp at hk; subst hk; exact ⟨vc, hc, h2⟩
    | k + 3, hk => simp at hk⟩⟩
end Go.Proofs.YtlofjcicpkfcdaaGreatDoor
