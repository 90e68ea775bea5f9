/- slices.Clone and slices.Reverse at changes: rows of the call's own. -/
import Derived.Test.YtlofjcicpkfcdaaGreatDoorLdiff
namespace Go.Proofs.YtlofjcicpkfcdaaGreatDoor
open Go.RowKit

theorem chgs_at {w : World} {b : Nat} : ∀ (cs : List Chg) (o : Nat), SlAt ChgAt 3 w b o cs → ∃ ms : List (Chg × Value), ms.map (·.1) = cs ∧ (∀ e ∈ ms, IsBnds w e.2 e.1.bs) ∧ Cells w b o (cellsC ms)
  | [], _, _ => ⟨[], rfl, by simp, fun j u h => by simp [cellsC] at h⟩
  | x :: l, o, h => by
    obtain ⟨v, hv, h0, h1, h2⟩ := h 0 x rfl
    obtain ⟨ms, e1, e2, e3⟩ := chgs_at l (o + 3) h.tail
    refine ⟨(x, v) :: ms, by rw [List.map_cons, e1], ?_, ?_⟩
    · intro e he
      rcases List.mem_cons.1 he with rfl | he
      · exact hv
      · exact e2 e he
    · refine Cells.app (cs := [.int .i64 x.sg, .int .i64 x.q, v]) (ds := cellsC ms) (fun j u hj => ?_) e3
      match j, hj with
      | 0, hj => simp at hj; subst hj; simpa using h0
      | 1, hj => simp at hj; subst hj; simpa using h1
      | 2, hj => simp at hj; subst hj; simpa using h2
      | j + 3, hj => simp at hj
theorem chgs_cells {w : World} {A : Option Addr} {n c : Nat} {cs : List Chg} (h : IsChgs w (.slice A n c) cs) : ∃ ms : List (Chg × Value), ms.map (·.1) = cs ∧ (∀ e ∈ ms, IsBnds w e.2 e.1.bs) ∧ Src w A n 3 (cellsC ms) := by
  obtain ⟨A', c', hv, h1, h2, h3⟩ := h
  injection hv with e1 e2 e3
  subst e1 e2 e3
  cases cs with
  | nil => exact ⟨[], rfl, by simp, by simp [cellsC], by simp [cellsC], fun h => by simp at h⟩
  | cons x l =>
    obtain ⟨b, o, hA, _⟩ := h3 0 x rfl
    subst hA
    have hat : SlAt ChgAt 3 w b o (x :: l) := fun k y hk => by
      obtain ⟨b', o', hA, hR⟩ := h3 k y hk
      injection hA with hA
      injection hA with e1 e2
      subst e1 e2
      exact hR
    obtain ⟨ms, k1, k2, k3⟩ := chgs_at _ o hat
    refine ⟨ms, k1, k2, by rw [cellsC_len, ← k1, List.length_map], cellsC_one fun e he => sl_oneCell (k2 e he), fun _ => ⟨b, o, rfl, k3⟩⟩
theorem rowC_is {B : Nat} {wr : World} {av : Value} {ms : List (Chg × Value)} (h : wr.ownsRow B 32 3 av ms.length (cellsC ms)) (hb : ∀ e ∈ ms, IsBnds wr e.2 e.1.bs) : IsChgs wr av (ms.map (·.1)) := by
  have h1 := cellsC_one (l := ms) fun e he => sl_oneCell (hb e he)
  obtain ⟨A, c, rfl, h2, h3, h4⟩ := ownsRow_src h h1
  refine ⟨A, c, by rw [List.length_map], by rw [List.length_map]; exact h2, h3, fun k x hk => ?_⟩
  rw [List.getElem?_map] at hk
  obtain ⟨e, he, rfl⟩ := Option.map_eq_some_iff.1 hk
  have hkl := (List.getElem?_eq_some_iff.1 he).1
  obtain ⟨b, o, hA, hcs⟩ := h4.2.2 (by omega)
  obtain ⟨k0, k1, k2⟩ := cellsC_at he
  exact ⟨b, o, hA, e.2, hb e (List.mem_of_getElem? he), hcs _ _ k0, hcs _ _ k1, hcs _ _ k2⟩


theorem cellsC_at' {l : List (Chg × Value)} {k : Nat} {e : Chg × Value} (h : l[k]? = some e) (r : List Value) : (cellsC l ++ r)[k * 3]? = some (.int .i64 e.1.sg) ∧ (cellsC l ++ r)[k * 3 + 1]? = some (.int .i64 e.1.q) ∧ (cellsC l ++ r)[k * 3 + 2]? = some e.2 := by
  obtain ⟨h1, h2, h3⟩ := cellsC_at h
  exact ⟨by rw [List.getElem?_append_left (List.getElem?_eq_some_iff.1 h1).1, h1], by rw [List.getElem?_append_left (List.getElem?_eq_some_iff.1 h2).1, h2], by rw [List.getElem?_append_left (List.getElem?_eq_some_iff.1 h3).1, h3]⟩
theorem cellsC_set3 {l : List (Chg × Value)} {i : Nat} {e : Chg × Value} (hi : i < l.length) (r : List Value) : (((cellsC l ++ r).set (i * 3) (.int .i64 e.1.sg)).set (i * 3 + 1) (.int .i64 e.1.q)).set (i * 3 + 2) e.2 = cellsC (l.set i e) ++ r := by
  induction l generalizing i with
  | nil => simp at hi
  | cons y l ih =>
    cases i with
    | zero => simp [cellsC]
    | succ i =>
      have := ih (i := i) (by simpa using hi)
      rw [show (i + 1) * 3 + 2 = i * 3 + 2 + 3 by omega, show (i + 1) * 3 + 1 = i * 3 + 1 + 3 by omega, show (i + 1) * 3 = i * 3 + 3 by omega]
      simp only [cellsC, List.cons_append, List.set_cons_succ, this]
/-- after k exchanges -/
def RevAt (ms ns : List (Chg × Value)) (k : Nat) : Prop := ns.length = ms.length ∧ ∀ j, j < ms.length → ns[j]? = if j < k ∨ ms.length - k ≤ j then ms[ms.length - 1 - j]? else ms[j]?
theorem rev_end {ms ns : List (Chg × Value)} {k : Nat} (h : RevAt ms ns k) (hk : ms.length ≤ 2 * k + 1) (hk2 : 2 * k ≤ ms.length) : ns = ms.reverse := by
  refine List.ext_getElem? fun j => ?_
  by_cases hj : j < ms.length
  · rw [h.2 j hj, List.getElem?_reverse hj]
    split
    · rfl
    · rw [show ms.length - 1 - j = j by omega]
  · rw [List.getElem?_eq_none (by rw [h.1]; omega), List.getElem?_eq_none (by rw [List.length_reverse]; omega)]
theorem rev_step {ms ns : List (Chg × Value)} {k : Nat} {x y : Chg × Value} (h : RevAt ms ns k) (hk : 2 * k + 1 < ms.length) (hx : ns[k]? = some x) (hy : ns[ms.length - 1 - k]? = some y) : RevAt ms ((ns.set k y).set (ms.length - 1 - k) x) (k + 1) := by
  have hx' := h.2 k (by omega)
  have hy' := h.2 (ms.length - 1 - k) (by omega)
  rw [if_neg (by omega), hx] at hx'
  rw [if_neg (by omega), hy] at hy'
  refine ⟨by rw [List.length_set, List.length_set, h.1], fun j hj => ?_⟩
  have hl := h.1
  rw [List.getElem?_set, List.getElem?_set, List.length_set]
  by_cases e1 : ms.length - 1 - k = j
  · rw [if_pos e1, if_pos (by omega), if_pos (by omega), hx']
    congr 1; omega
  · rw [if_neg e1]
    by_cases e2 : k = j
    · rw [if_pos e2, if_pos (by omega), if_pos (by omega), hy']
      congr 1; omega
    · rw [if_neg e2, h.2 j hj]
      by_cases e3 : j < k ∨ ms.length - k ≤ j
      · rw [if_pos e3, if_pos (by omega)]
      · rw [if_neg e3, if_neg (by omega)]

theorem drew_heap (W : World) : W.drew.heap = W.heap := rfl
theorem swap_heap {W : World} {g t : Nat} {cs : List Value} (h : W.heap[g]? = some (.cells cs.toArray t (0, 0))) (i0 i1 i2 i3 i4 i5 : Nat) (v0 v1 v2 v3 v4 v5 : Value) :
    (((((((W.setCell ⟨g, i0, none⟩ v0).setCell ⟨g, i1, none⟩ v1).setCell ⟨g, i2, none⟩ v2).setCell ⟨g, i3, none⟩ v3).setCell ⟨g, i4, none⟩ v4).setCell ⟨g, i5, none⟩ v5).drew).heap[g]? = some (.cells ((((((cs.set i0 v0).set i1 v1).set i2 v2).set i3 v3).set i4 v4).set i5 v5).toArray t (0, 0)) := by
  rw [drew_heap]
  have h0 := blk_set h i0 v0
  have h1 := blk_set h0 i1 v1
  have h2 := blk_set h1 i2 v2
  have h3 := blk_set h2 i3 v3
  have h4 := blk_set h3 i4 v4
  exact blk_set h4 i5 v5
theorem swap_grown (W : World) (g : Nat) (i0 i1 i2 i3 i4 i5 : Nat) (v0 v1 v2 v3 v4 v5 : Value) :
    W.grownBy ((((((W.setCell ⟨g, i0, none⟩ v0).setCell ⟨g, i1, none⟩ v1).setCell ⟨g, i2, none⟩ v2).setCell ⟨g, i3, none⟩ v3).setCell ⟨g, i4, none⟩ v4).setCell ⟨g, i5, none⟩ v5).drew (some g) :=
  grown_tr (set_grown W g i0 v0) (grown_tr (set_grown _ g i1 v1) (grown_tr (set_grown _ g i2 v2) (grown_tr (set_grown _ g i3 v3) (grown_tr (set_grown _ g i4 v4) (grown_tr (set_grown _ g i5 v5) (below_grown (Below.refl _ _).drew _))))))

theorem own_cur {W : World} {base e sz n : Nat} {v : Value} {xs : List Value} (h : W.ownsRow base e sz v n xs) :
    (v = .slice none 0 0 ∧ n = 0) ∨ ∃ g cap spare, v = .slice (some ⟨g, 0, none⟩) n cap ∧ base ≤ g ∧ W.heap[g]? = some (.cells (xs ++ spare).toArray e (0, 0)) ∧ n ≤ cap ∧ cap ≤ maxLen ∧ (xs ++ spare).length = cap * sz ∧ xs.length = n * sz := by
  rcases h.2 with h0 | ⟨g, cap, cur, hv, hg, hh, hnc, hcm, hcs, htake⟩
  · exact .inl h0
  · have hcur : cur.toList = xs ++ cur.toList.drop (n * sz) := by rw [← htake, List.take_append_drop]
    refine .inr ⟨g, cap, cur.toList.drop (n * sz), hv, hg, by rw [← hcur]; exact hh, hnc, hcm, by rw [← hcur]; simpa using hcs, h.1⟩
theorem own_mk {W : World} {base e sz n g cap : Nat} {xs spare : List Value} (hg : base ≤ g) (hh : W.heap[g]? = some (.cells (xs ++ spare).toArray e (0, 0))) (hnc : n ≤ cap) (hcm : cap ≤ maxLen) (hl : (xs ++ spare).length = cap * sz) (hx : xs.length = n * sz) :
    W.ownsRow base e sz (.slice (some ⟨g, 0, none⟩) n cap) n xs :=
  ⟨hx, .inr ⟨g, cap, _, rfl, hg, hh, hnc, hcm, by simpa using hl, by rw [List.toList_toArray, ← hx, List.take_left]⟩⟩
theorem own_set {W : World} {base e sz n g cap j : Nat} {xs : List Value} {v : Value} (h : W.ownsRow base e sz (.slice (some ⟨g, 0, none⟩) n cap) n xs) (hj : j < xs.length) : (W.setCell ⟨g, j, none⟩ v).ownsRow base e sz (.slice (some ⟨g, 0, none⟩) n cap) n (xs.set j v) := by
  rcases own_cur h with ⟨h0, _⟩ | ⟨g', cap', spare, hv, hg, hh, hnc, hcm, hl, hx⟩
  · cases h0
  · injection hv with e1 _ e3
    injection e1 with e1
    injection e1 with e1
    subst e1 e3
    have h2 := blk_set hh j v
    rw [List.set_append_left _ _ hj] at h2
    exact own_mk hg h2 hnc hcm (by rw [List.length_append, List.length_set, ← List.length_append]; exact hl) (by rw [List.length_set]; exact hx)
end Go.Proofs.YtlofjcicpkfcdaaGreatDoor
