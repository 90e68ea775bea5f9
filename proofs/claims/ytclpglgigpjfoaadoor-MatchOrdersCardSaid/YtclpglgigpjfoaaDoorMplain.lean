/- Plain laws of matches (layer 17): their order, and what sorting makes of a list. -/
import Derived.Test.YtclpglgigpjfoaaDoorKcomp
namespace Go.Proofs.YtclpglgigpjfoaaDoor

theorem cmpI_unit (a b : Int) : cmpI a b = -1 ∨ cmpI a b = 0 ∨ cmpI a b = 1 := by unfold cmpI; (repeat' split) <;> simp
theorem orI_unit {a b : Int} (ha : a = -1 ∨ a = 0 ∨ a = 1) (hb : b = -1 ∨ b = 0 ∨ b = 1) : orI a b = -1 ∨ orI a b = 0 ∨ orI a b = 1 := by unfold orI; split <;> assumption
theorem bndC_unit (a b : Bnd) : bndC a b = -1 ∨ bndC a b = 0 ∨ bndC a b = 1 := by
  unfold bndC refsC
  exact orI_unit (orI_unit (orI_unit (cmpI_unit _ _) (cmpI_unit _ _)) (cmpI_unit _ _)) (cmpI_unit _ _)
theorem bsC_unit : ∀ a b : List Bnd, bsC a b = -1 ∨ bsC a b = 0 ∨ bsC a b = 1
  | [], [] => .inr (.inl rfl)
  | [], _ :: _ => .inl rfl
  | _ :: _, [] => .inr (.inr rfl)
  | a :: l, b :: m => by
    have h := bsC_unit l m
    unfold bsC at h ⊢
    simp only [listC]
    exact orI_unit (bndC_unit a b) h
/-- a match that is continued comes behind what it was -/
theorem bsC_prefix : ∀ (a : List Bnd) (k : Nat), k < a.length → bsC (a.take k) a = -1
  | [], _, h => absurd h (by simp)
  | _ :: _, 0, _ => rfl
  | x :: a, k + 1, h => by
    have ih := bsC_prefix a k (by simpa using h)
    unfold bsC at ih ⊢
    rw [List.take_succ_cons]
    simp only [listC]
    rw [bndC_pc.refl, ih]; rfl
/-- the order is a total one: what the law asks of three matches -/
theorem bsC_order (a b c : List Bnd) : bsC a b = - bsC b a ∧ (bsC a b = 0 ↔ a = b) ∧ ¬ (bsC a b ≤ 0 ∧ bsC b c ≤ 0 ∧ 0 < bsC a c) ∧ ¬ (0 ≤ bsC a b ∧ 0 ≤ bsC b c ∧ bsC a c < 0) := by
  have h := bsC_pc
  have key : ∀ x y z : List Bnd, bsC x y ≤ 0 → bsC y z ≤ 0 → bsC x z ≤ 0 := fun x y z h1 h2 => by
    by_cases e1 : bsC x y = 0
    · rw [h.cong x y z e1]; exact h2
    · by_cases e2 : bsC y z = 0
      · have := h.lt_eq (a := x) (b := y) (e := z) (by omega) e2; omega
      · have := h.lt x y z (by omega) (by omega); omega
  refine ⟨h.anti b a, bsC_eq, fun ⟨h1, h2, h3⟩ => ?_, fun ⟨h1, h2, h3⟩ => ?_⟩
  · have := key a b c h1 h2; omega
  · have h4 := h.anti a b
    have h5 := h.anti b c
    have h6 := h.anti a c
    have := key c b a (by omega) (by omega); omega
theorem sortM_set {l m : List (List Bnd)} (h : ∀ k, k ∈ l ↔ k ∈ m) : sortM l = sortM m :=
  asc_uniq (sortM_ok l).1 (sortM_ok m).1 fun k => by rw [(sortM_ok l).2, (sortM_ok m).2, h]
theorem scan_any {e : List Bnd → Int} : ∀ (p : Option (List Bnd)) (l : List (List Bnd)), scanE (fun _ m => e m) p l ≠ 0 ↔ ∃ m, m ∈ l ∧ e m ≠ 0
  | _, [] => by simp [scanE]
  | p, x :: l => by
    simp only [scanE]
    by_cases h : e x = 0
    · rw [if_pos h, scan_any (some x) l]
      constructor
      · rintro ⟨m, h1, h2⟩; exact ⟨m, List.mem_cons_of_mem _ h1, h2⟩
      · rintro ⟨m, h1, h2⟩
        rcases List.mem_cons.1 h1 with rfl | h1
        · exact absurd h h2
        · exact ⟨m, h1, h2⟩
    · rw [if_neg h]
      exact ⟨fun _ => ⟨x, List.mem_cons_self .., h⟩, fun _ => h⟩
/-- sorting fails or not by the set of the matches alone, and its result is the set's -/
theorem sortR_set {l m : List (List Bnd)} (h : ∀ k, k ∈ l ↔ k ∈ m) : ((sortR l).2 ≠ 0 ↔ (sortR m).2 ≠ 0) ∧ ((sortR l).2 = 0 → (sortR m).2 = 0 → (sortR l).1 = (sortR m).1) := by
  have h1 : matsErr l ≠ 0 ↔ matsErr m ≠ 0 := by
    unfold matsErr
    rw [scan_any, scan_any]
    exact ⟨fun ⟨k, a, b⟩ => ⟨k, (h k).1 a, b⟩, fun ⟨k, a, b⟩ => ⟨k, (h k).2 a, b⟩⟩
  have h2 := sortM_set h
  by_cases e : matsErr l = 0
  · have e' : matsErr m = 0 := by
      by_cases e' : matsErr m = 0
      · exact e'
      · exact absurd e (h1.2 e')
    have hq : sortR l = sortR m := by unfold sortR; rw [e, e', h2]
    rw [hq]
    exact ⟨Iff.rfl, fun _ _ => rfl⟩
  · have k1 : (sortR l).2 ≠ 0 := by unfold sortR; rw [if_pos e]; exact e
    have k2 : (sortR m).2 ≠ 0 := by unfold sortR; rw [if_pos (h1.1 e)]; exact h1.1 e
    exact ⟨⟨fun _ => k2, fun _ => k1⟩, fun h3 => absurd h3 k1⟩
/-- the list that the law turns has the same members -/
theorem turned_mem {l : List (List Bnd)} {k : Nat} {x : List Bnd} (hx : l[k]? = some x) (y : List Bnd) : y ∈ (l.drop k ++ l.take k ++ [x]).reverse ↔ y ∈ l := by
  rw [List.mem_reverse, List.mem_append, List.mem_append]
  have hs := List.take_append_drop k l
  constructor
  · rintro ((h | h) | h)
    · exact List.mem_of_mem_drop h
    · exact List.mem_of_mem_take h
    · simp at h; subst h; exact List.mem_of_getElem? hx
  · intro h
    rw [← hs] at h
    rcases List.mem_append.1 h with h | h
    · exact .inl (.inr h)
    · exact .inl (.inl h)
end Go.Proofs.YtclpglgigpjfoaaDoor
