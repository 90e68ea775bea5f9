/- Few channels and few items. -/
import Derived.Test.YteonfoaemljndaaAwake
namespace Go.Proofs.Yteonfoaemljndaa
open Go.RowKit

def manyI (n : Int) : Bool := decide (40 < n) && (decide (n < 4096) || decide (4105 < n))
def fewItemsB (l : List Item) : Bool := !manyI l.length && l.all fun x => decide ((x.values.length : Int) ≤ 12)
def fewB (l : List Queue) : Bool := ((l.take 20).all fun q => fewItemsB q.items) && decide ((l.length : Int) ≤ 20)

set_option maxRecDepth 100000 in
set_option maxHeartbeats 1000000 in
theorem fewItems_any (l : List Item) (v : Value) (w : World) (hl : IsItems w v l) :
    Calls Try.prog 12 #[v] w fun e w' => e = .returned (.bool (fewItemsB l)) ∧ w = w' := by
  obtain ⟨A, c, rfl, h1, h2, hat⟩ := hl
  have hn := len_i64 h1 h2
  have HL := Lib.hid hat
  clear hat h1 h2
  by_cases hm : manyI l.length = true
  · have HR : Hid (fewItemsB l = false) := Lib.hid (by simp [fewItemsB, hm])
    have hm' : 40 < (l.length : Int) ∧ ((l.length : Int) < 4096 ∨ 4105 < (l.length : Int)) := by simpa [manyI] using hm
    have hm1 := hm'.1
    have hm2 := hm'.2
    clear hm hm'
    go_enter Try.func12, Try.ntmps12
    go_wp2_with fail
    all_goals first
      | (exfalso; omega)
      | (go_ret
         rw [HR.out]
         exact ⟨rfl, rfl⟩)
  · have HR : Hid (fewItemsB l = l.all fun x => decide ((x.values.length : Int) ≤ 12)) := Lib.hid (by simp [fewItemsB, hm])
    have hm' : (l.length : Int) ≤ 40 ∨ (4096 ≤ (l.length : Int) ∧ (l.length : Int) ≤ 4105) := by
      have h5 : ¬ (40 < (l.length : Int) ∧ ((l.length : Int) < 4096 ∨ 4105 < (l.length : Int))) := by simpa [manyI] using hm
      omega
    clear hm
    rcases hm' with h3 | ⟨h3, h4⟩
    all_goals
      go_enter Try.func12, Try.ntmps12
      go_wp2
      go_loop [3] (fun i => ∃ k : Nat, k ≤ l.length ∧ i = .int .i64 k ∧ Hid (∀ (j : Nat) (y : Item), l[j]? = some y → j < k → (y.values.length : Int) ≤ 12)) (fun i => l.length - (intOf i).toNat)
      case atStart => exact ⟨0, Nat.zero_le _, rfl, fun _ _ _ h => absurd h (by omega)⟩
      case round =>
        obtain ⟨k, hk, rfl, hi⟩ := hrel
        by_cases hlt : k < l.length
        · obtain ⟨b, o, rfl, v, hv, c0, c1, c2, c3, c4, c5, c6⟩ := HL.out k l[k] (List.getElem?_eq_getElem hlt)
          obtain ⟨A', c', rfl, -, -, -⟩ := hv
          have hget := Lib.hid (List.getElem?_eq_getElem hlt)
          obtain ⟨x, hx⟩ : ∃ x, x = l[k] := ⟨_, rfl⟩
          rw [← hx] at c5 hget
          clear hx c0 c1 c2 c3 c4 c6
          have hk' : (k : Int) < (l.length : Int) := by omega
          by_cases h12 : 12 < (x.values.length : Int)
          · have HF : Hid (fewItemsB l = false) := Lib.hid (by
              rw [HR.out, List.all_eq_false]
              exact ⟨x, List.mem_of_getElem? hget.out, by simp; omega⟩)
            go_wp2
            go_ret
            rw [HF.out]
            exact ⟨rfl, rfl⟩
          · go_wp2
            go_round
            case rel =>
              refine ⟨k + 1, by omega, by go_num, ?_⟩
              intro j y hj hjk
              rcases Nat.lt_or_eq_of_le (Nat.le_of_lt_succ hjk) with h | h
              · exact hi j y hj h
              · subst h; rw [hget.out] at hj; injection hj with hj; subst hj; omega
            case measure => simp [intOf]; omega
        · have HF : Hid (fewItemsB l = true) := Lib.hid (by
            rw [HR.out, List.all_eq_true]
            intro x hx
            obtain ⟨j, hj⟩ := List.mem_iff_getElem?.1 hx
            exact decide_eq_true (hi j x hj (by have := (List.getElem?_eq_some_iff.1 hj).1; omega)))
          go_wp2
          go_ret
          rw [HF.out]
          exact ⟨rfl, rfl⟩

set_option maxRecDepth 100000 in
set_option maxHeartbeats 1000000 in
theorem few_any (l : List Queue) (v : Value) (w : World) (hl : IsQueues w v l) :
    Calls Try.prog 11 #[v] w fun e w' => e = .returned (.bool (fewB l)) ∧ w = w' := by
  obtain ⟨A, c, rfl, h1, h2, hat⟩ := hl
  have hn := len_i64 h1 h2
  have HL := Lib.hid hat
  clear hat h1 h2
  go_enter Try.func11, Try.ntmps11
  go_wp2
  go_loop [3] (fun i => ∃ k : Nat, k ≤ l.length ∧ k ≤ 20 ∧ i = .int .i64 k ∧ Hid (∀ (j : Nat) (q : Queue), l[j]? = some q → j < k → fewItemsB q.items = true)) (fun i => l.length - (intOf i).toNat)
  case atStart => exact ⟨0, Nat.zero_le _, by omega, rfl, fun _ _ _ h => absurd h (by omega)⟩
  case round =>
    obtain ⟨k, hk, hk20, rfl, hi⟩ := hrel
    by_cases hlt : k < l.length ∧ k < 20
    · obtain ⟨hlt1, hlt2⟩ := hlt
      obtain ⟨b, o, rfl, v, hv, c0, c1, c2⟩ := HL.out k l[k] (List.getElem?_eq_getElem hlt1)
      have hget := Lib.hid (List.getElem?_eq_getElem hlt1)
      obtain ⟨q, hq⟩ : ∃ q, q = l[k] := ⟨_, rfl⟩
      rw [← hq] at hv hget
      clear hq c0 c1
      have HV := Lib.hid hv
      obtain ⟨A', c', rfl, -, -, -⟩ := hv
      have hk' : (k : Int) < (l.length : Int) := by omega
      have hk'' : (k : Int) < 20 := by omega
      obtain ⟨bb, hbb⟩ : ∃ bb, fewItemsB q.items = bb := ⟨_, rfl⟩
      have HB := Lib.hid hbb
      cases bb with
      | true =>
        go_wp2_with (go_at_call 12; refine (fewItems_any q.items _ _ HV.out).mono ?_; rw [hbb]; rintro e w' ⟨rfl, rfl⟩; clear hbb)
        go_round
        case rel =>
          refine ⟨k + 1, by omega, by omega, by go_num, ?_⟩
          intro j y hj hjk
          rcases Nat.lt_or_eq_of_le (Nat.le_of_lt_succ hjk) with h | h
          · exact hi j y hj h
          · subst h; rw [hget.out] at hj; injection hj with hj; subst hj; exact HB.out
        case measure => simp [intOf]; omega
      | false =>
        have HF : Hid (fewB l = false) := Lib.hid (by
          have : ((l.take 20).all fun q => fewItemsB q.items) = false := by
            rw [List.all_eq_false]
            refine ⟨q, ?_, by rw [HB.out]; simp⟩
            have h7 : (l.take 20)[k]? = some q := by rw [List.getElem?_take, if_pos hlt2]; exact hget.out
            exact List.mem_of_getElem? h7
          simp only [fewB, this, Bool.false_and])
        go_wp2_with (go_at_call 12; refine (fewItems_any q.items _ _ HV.out).mono ?_; rw [hbb]; rintro e w' ⟨rfl, rfl⟩; clear hbb)
        go_ret
        rw [HF.out]
        exact ⟨rfl, rfl⟩
    · have HF : Hid (fewB l = decide ((l.length : Int) ≤ 20)) := Lib.hid (by
        have : ((l.take 20).all fun q => fewItemsB q.items) = true := by
          rw [List.all_eq_true]
          intro x hx
          obtain ⟨j, hj⟩ := List.mem_iff_getElem?.1 hx
          rw [List.getElem?_take] at hj
          split at hj
          · exact hi j x hj (by have := (List.getElem?_eq_some_iff.1 hj).1; omega)
          · cases hj
        simp only [fewB, this, Bool.true_and])
      have hlt' : ¬ k < l.length ∨ ¬ k < 20 := by omega
      by_cases h7 : k < l.length
      · have h8 : (k : Int) < (l.length : Int) := by omega
        have h9 : ¬ (k : Int) < 20 := by omega
        go_wp2
        go_ret
        rw [HF.out]
        exact ⟨rfl, rfl⟩
      · have h8 : ¬ (k : Int) < (l.length : Int) := by omega
        go_wp2
        go_ret
        rw [HF.out]
        exact ⟨rfl, rfl⟩

theorem few_bounds {l : List Queue} (h : fewB l = true) : l.length ≤ 20 ∧ ∀ q ∈ l, q.items.length ≤ 4105 ∧ ∀ x ∈ q.items, x.values.length ≤ 12 := by
  simp only [fewB, Bool.and_eq_true, decide_eq_true_eq] at h
  have hl : l.length ≤ 20 := by omega
  refine ⟨hl, fun q hq => ?_⟩
  rw [List.take_of_length_le hl, List.all_eq_true] at h
  have := h.1 q hq
  simp only [fewItemsB, Bool.and_eq_true, Bool.not_eq_true', manyI, List.all_eq_true, decide_eq_true_eq] at this
  refine ⟨?_, fun x hx => by have := this.2 x hx; omega⟩
  have h2 := this.1
  by_cases h3 : q.items.length ≤ 4105
  · exact h3
  · simp at h2; omega
theorem fewItems_bounds {l : List Item} (h : fewItemsB l = true) : l.length ≤ 4105 ∧ ∀ x ∈ l, x.values.length ≤ 12 := by
  simp only [fewItemsB, Bool.and_eq_true, Bool.not_eq_true', manyI, List.all_eq_true, decide_eq_true_eq] at h
  refine ⟨?_, fun x hx => by have := h.2 x hx; omega⟩
  have h2 := h.1
  by_cases h3 : l.length ≤ 4105
  · exact h3
  · simp at h2; omega
end Go.Proofs.Yteonfoaemljndaa
