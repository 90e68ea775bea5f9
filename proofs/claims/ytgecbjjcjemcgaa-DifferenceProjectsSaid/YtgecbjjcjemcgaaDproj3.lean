/- Plain laws of projecting: values fixed one after another; the model without an unknown. -/
import Derived.Test.YtgecbjjcjemcgaaDproj2
namespace Go.Proofs.Ytgecbjjcjemcgaa
open Go.RowKit

/-- the bounds bs, and the first k values fixed -/
def wholeL (bs : List Bd) (u : Nat) (vs : List Int) : Nat → List Bd
  | 0 => bs
  | k + 1 => (wholeL bs u vs k ++ [⟨plc u k, 0, gd vs k⟩]) ++ [⟨0, plc u k, -gd vs k⟩]
theorem wholeL_len (bs : List Bd) (u : Nat) (vs : List Int) : ∀ k, (wholeL bs u vs k).length = bs.length + 2 * k := by
  intro k
  induction k with
  | zero => rfl
  | succ k ih => simp only [wholeL, List.length_append, ih, List.length_singleton]; omega
theorem wholeL_sat {bs : List Bd} {u : Nat} {vs : List Int} {f : Nat → Int} : ∀ {k}, satE f ((wholeL bs u vs k).map ed) ↔ satE f (bs.map ed) ∧ ∀ i, i < k → f (plc u i) - f 0 = gd vs i := by
  intro k
  induction k with
  | zero => simp [wholeL]
  | succ k ih =>
    have e1 : List.map ed [(⟨(plc u k : Int), 0, gd vs k⟩ : Bd)] = [⟨plc u k, 0, gd vs k⟩] := by simp [ed]
    have e2 : List.map ed [(⟨0, (plc u k : Int), -gd vs k⟩ : Bd)] = [⟨0, plc u k, -gd vs k⟩] := by simp [ed]
    simp only [wholeL, List.map_append]
    rw [satE_app, satE_app, ih, e1, e2, satE_one, satE_one]
    simp only
    constructor
    · rintro ⟨⟨⟨h1, h2⟩, h3⟩, h4⟩
      refine ⟨h1, fun i hi => ?_⟩
      by_cases e : i = k
      · subst e; omega
      · exact h2 i (by omega)
    · rintro ⟨h1, h2⟩
      have := h2 k (by omega)
      exact ⟨⟨⟨h1, fun i hi => h2 i (by omega)⟩, by omega⟩, by omega⟩
theorem wholeL_zone {n u : Nat} {bs : List Bd} {vs : List Int} (hz : zoneErr n bs = 0) (hu : u < n) (hl : bs.length ≤ 12) (hn : n ≤ 6) (hv : ∀ i, -1000 ≤ gd vs i ∧ gd vs i ≤ 1000) : ∀ k, k ≤ n - 1 → zoneErr n (wholeL bs u vs k) = 0 := by
  intro k
  induction k with
  | zero => intro _; exact hz
  | succ k ih =>
    intro hk
    have h1 := plc_lt hu (by omega : k < n - 1)
    have h2 := hv k
    have h3 := wholeL_len bs u vs k
    exact zoneErr_app (zoneErr_app (ih (by omega)) (by omega) (boundErr_ok (by simp only; omega) (by simp only; omega) (by simp only; omega) (by simp only; omega) (by simp only; omega) (by simp only; omega))) (by simp; omega) (boundErr_ok (by simp only; omega) (by simp only; omega) (by simp only; omega) (by simp only; omega) (by simp only; omega) (by simp only; omega))
theorem wholeL_ok {n u : Nat} {bs : List Bd} {vs : List Int} (hz : zoneErr n bs = 0) (hu : u < n) (hl : bs.length ≤ 12) (hn : n ≤ 6) (hv : ∀ i, -1000 ≤ gd vs i ∧ gd vs i ≤ 1000) : okE n ((wholeL bs u vs (n - 1)).map ed) := by
  have h := (good_of (wholeL_zone hz hu hl hn hv (n - 1) (Nat.le_refl _))).2.2.2
  rw [Int.toNat_natCast] at h
  exact good_ok h

theorem clo_pos {n : Nat} {es : List Ed} : ∀ b ∈ clo n es, 0 ≤ b.x ∧ 0 ≤ b.y := by
  intro b hb
  obtain ⟨x, y, c, -, -, -, -, rfl⟩ := mem_entE.1 hb
  exact ⟨by simp only; omega, by simp only; omega⟩

theorem whole_feas {n u : Nat} {bs : List Bd} {vs : List Int} (hz : zoneErr n bs = 0) (hu0 : 1 ≤ u) (hu : u < n) (hl : bs.length ≤ 12) (hn : n ≤ 6) (hv : ∀ i, -1000 ≤ gd vs i ∧ gd vs i ≤ 1000) (hlen : vs.length = n - 1) (h0 : gd vs 0 = 0) (hf : feas n (bs.map ed) = true) :
    feas n ((wholeL bs u vs (n - 1)).map ed) = satB (projL u (clo n (bs.map ed))) vs := by
  obtain ⟨-, -, -, hg⟩ := good_of hz
  rw [Int.toNat_natCast] at hg
  have hok := good_ok hg
  have hs := feas_sat hf
  rw [Bool.eq_iff_iff, satB_iff, feas_iff (wholeL_ok hz hu hl hn hv)]
  constructor
  · rintro ⟨f, h⟩
    obtain ⟨h1, h2⟩ := wholeL_sat.1 h
    have h3 := (clo_sat hok hs).2 h1
    refine (proj_sat (f := fun k => if k < n then f k - f 0 else 0) clo_pos (fun i => ?_)).2 ?_
    · by_cases hi : i < n - 1
      · have e : (if plc u i < n then f (plc u i) - f 0 else 0) = f (plc u i) - f 0 := if_pos (plc_lt hu hi)
        exact e.trans (h2 i hi)
      · have e : (if plc u i < n then f (plc u i) - f 0 else 0) = 0 := if_neg (by unfold plc; split <;> omega)
        exact e.trans (gd_over (by omega)).symm
    · intro b hb _ _
      have h4 := h3 _ (List.mem_map_of_mem hb)
      obtain ⟨x, y, c, hx, hy, -, -, rfl⟩ := mem_entE.1 hb
      simp only [ed, Int.toNat_natCast] at h4 ⊢
      rw [if_pos hx, if_pos hy]
      omega
  · intro h
    have hfun : ∀ i, (fun k => if k = u then (0 : Int) else gd vs (if u < k then k - 1 else k)) (plc u i) = gd vs i := by
      intro i
      simp only
      rw [if_neg (plc_ne u i)]
      congr 1
      unfold plc
      split <;> split <;> omega
    have h1 := (proj_sat (f := fun k => if k = u then (0 : Int) else gd vs (if u < k then k - 1 else k)) clo_pos hfun).1 h
    obtain ⟨t, ht⟩ := extend hok hs hu (f := fun k => if k = u then (0 : Int) else gd vs (if u < k then k - 1 else k)) (fun x y c hx hy hxy hxu hyu hc => by
      have h2 := h1 ⟨x, y, c⟩ (mem_entE.2 ⟨x, y, c, hx, hy, hxy, hc, rfl⟩) (by simp only; omega) (by simp only; omega)
      simpa using h2)
    refine ⟨_, wholeL_sat.2 ⟨ht, fun i hi => ?_⟩⟩
    have h3 := hfun i
    have hp := plc_ne u i
    simp only at h3 ⊢
    rw [if_neg hp] at h3 ⊢
    rw [if_neg (by omega : ¬ 0 = u)]
    rw [if_neg hp, h3, if_neg (by omega : ¬ 0 = u), if_neg (by omega : ¬ u < 0), h0]
    omega

theorem project_cases {n u : Nat} {bs : List Bd} (hz : zoneErr n bs = 0) (hn : n ≤ 6) (hu0 : 1 ≤ u) (hu : u < n) :
    (feas n (bs.map ed) = false ∧ projectR n bs u = (0, [], 24)) ∨ (feas n (bs.map ed) = true ∧ projectR n bs u = (0, [], 2)) ∨
      (feas n (bs.map ed) = true ∧ bdsErr n (clo n (bs.map ed)) = 0 ∧ projectR n bs u = ((n : Int) - 1, projL u (clo n (bs.map ed)), 0)) := by
  unfold projectR
  rw [if_pos hz, if_neg (by omega), Int.toNat_natCast]
  cases hf : feas n (bs.map ed) with
  | false => left; rw [closedR_no hf]; exact ⟨rfl, rfl⟩
  | true =>
    right
    rw [closedR_yes hf hn]
    rcases bdsErr_two n (clo n (bs.map ed)) with h | h
    · right; rw [h]; exact ⟨rfl, rfl, rfl⟩
    · left; rw [h]; exact ⟨rfl, rfl⟩
theorem bdsErr_all {n : Int} {l : List Bd} (h : ∀ b ∈ l, boundErr n b = 0) : bdsErr n l = 0 := by
  induction l with
  | nil => rfl
  | cons b l ih =>
    simp only [bdsErr]
    rw [if_pos (h b (by simp))]
    exact ih (fun c hc => h c (by simp [hc]))
theorem bdsErr_mem {n : Int} {l : List Bd} (h : bdsErr n l = 0) : ∀ b ∈ l, boundErr n b = 0 := by
  induction l with
  | nil => intro b hb; simp at hb
  | cons c l ih =>
    simp only [bdsErr] at h
    by_cases hc : boundErr n c = 0
    · rw [if_pos hc] at h
      intro b hb
      rcases List.mem_cons.1 hb with rfl | hb
      · exact hc
      · exact ih h b hb
    · rw [if_neg hc] at h; exact absurd h hc
theorem boundErr_parts {n : Int} {b : Bd} (h : boundErr n b = 0) : 0 ≤ b.x ∧ b.x < n ∧ 0 ≤ b.y ∧ b.y < n ∧ -1125899906842624 ≤ b.most ∧ b.most ≤ 1125899906842624 := by
  unfold boundErr boundBad at h
  split at h
  · cases h
  · rename_i hb
    simp only [Bool.or_eq_true, decide_eq_true_eq, not_or] at hb
    omega
theorem proj_zone {n u : Nat} {bs : List Bd} (hn : n ≤ 6) (hu0 : 1 ≤ u) (hu : u < n) (hb : bdsErr n (clo n (bs.map ed)) = 0) : zoneErr ((n : Int) - 1) (projL u (clo n (bs.map ed))) = 0 := by
  refine zoneErr_parts.2 ⟨?_, ?_, bdsErr_all ?_⟩
  · unfold nBad
    simp only [Bool.or_eq_false_iff, decide_eq_false_iff_not]
    omega
  · have h1 := clo_len hn (bs.map ed)
    have h2 := projL_len u (clo n (bs.map ed))
    omega
  · intro c hc
    obtain ⟨b, hbm, rfl⟩ := List.mem_map.1 hc
    obtain ⟨hb1, hb2⟩ := List.mem_filter.1 hbm
    simp only [offU, Bool.and_eq_true, bne_iff_ne] at hb2
    obtain ⟨h1, h2, h3, h4, h5, h6⟩ := boundErr_parts (bdsErr_mem hb b hb1)
    unfold reBd renum
    refine boundErr_ok ?_ ?_ ?_ ?_ h5 h6 <;> simp only <;> split <;> omega
theorem proj_holds {n u : Nat} {bs : List Bd} {vs : List Int} (hn : n ≤ 6) (hu0 : 1 ≤ u) (hu : u < n) (hb : bdsErr n (clo n (bs.map ed)) = 0) (hlen : vs.length = n - 1) (h0 : gd vs 0 = 0) (hfar : vs.any farI = false) :
    holdsR ((n : Int) - 1) (projL u (clo n (bs.map ed))) vs = (satB (projL u (clo n (bs.map ed))) vs, 0) := by
  unfold holdsR
  rw [if_pos (proj_zone hn hu0 hu hb), if_pos (by omega), hfar, if_neg (by simp), if_pos h0]
theorem gd_erase {l : List Int} {u i : Nat} : gd (l.eraseIdx u) i = gd l (plc u i) := by
  unfold gd plc
  rw [List.getD_eq_getElem?_getD, List.getD_eq_getElem?_getD, List.getElem?_eraseIdx]
  split <;> split <;> first | rfl | omega
theorem rest_holds {n u : Nat} {bs : List Bd} (hz : zoneErr n bs = 0) (hn : n ≤ 6) (hl : bs.length ≤ 12) (hu0 : 1 ≤ u) (hu : u < n) (hb : bdsErr n (clo n (bs.map ed)) = 0) (hf : feas n (bs.map ed) = true) :
    holdsR ((n : Int) - 1) (projL u (clo n (bs.map ed))) ((modelOf (sums n (bs.map ed))).eraseIdx u) = (true, 0) := by
  obtain ⟨-, -, -, hg⟩ := good_of hz
  rw [Int.toNat_natCast] at hg
  have hok := good_ok hg
  have hml : (modelOf (sums n (bs.map ed))).length = n := by rw [modelOf_length, sums_len]
  have hmh := model_holds hz (by omega) (by omega) (by rw [Int.toNat_natCast]; exact hf)
  rw [Int.toNat_natCast] at hmh
  have hfar : (modelOf (sums n (bs.map ed))).any farI = false := by
    unfold holdsR at hmh
    rw [if_pos hz, if_pos (by omega)] at hmh
    split at hmh
    · simp at hmh
    · rename_i h; simpa using h
  rw [proj_holds hn hu0 hu hb (by rw [List.length_eraseIdx]; split <;> omega) ?_ ?_]
  · rw [satB_iff.2 ((proj_sat (f := gd (modelOf (sums n (bs.map ed)))) clo_pos (fun i => gd_erase.symm)).2 ?_)]
    intro b hbm _ _
    have h := (clo_sat hok (feas_sat hf)).2 (model_sat hok hf) _ (List.mem_map_of_mem hbm)
    simpa [ed] using h
  · rw [gd_erase, gd_modelOf (by rw [sums_len]; unfold plc; split <;> omega)]
    unfold plc
    rw [if_neg (by omega)]
    omega
  · rw [List.any_eq_false] at hfar ⊢
    exact fun x hx => hfar x (List.mem_of_mem_eraseIdx hx)
end Go.Proofs.Ytgecbjjcjemcgaa
