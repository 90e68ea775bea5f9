/- ref17.Few at matches, ref01.Few at values, ref05.Few at events. -/
import Derived.Test.YtclpglgigpjfoaaDoorMdata
import Derived.Test.YtclpglgigpjfoaaDoorLchk2
namespace Go.Proofs.YtclpglgigpjfoaaDoor
open Go.RowKit

def shortM (x : List Bnd) : Bool := decide ((x.length : Int) ≤ 20)
def fewM (l : List (List Bnd)) : Bool := (l.take 40).all shortM && decide ((l.length : Int) ≤ 30)
theorem fewM_parts {l : List (List Bnd)} (h : fewM l = true) : l.length ≤ 30 ∧ ∀ x ∈ l, x.length ≤ 20 := by
  unfold fewM at h
  rw [Bool.and_eq_true] at h
  have h1 : l.length ≤ 30 := by have := of_decide_eq_true h.2; omega
  refine ⟨h1, fun x hx => ?_⟩
  have h2 := h.1
  rw [List.take_of_length_le (show l.length ≤ 40 by omega), List.all_eq_true] at h2
  have := of_decide_eq_true (h2 x hx)
  omega

set_option maxRecDepth 100000 in
set_option maxHeartbeats 1000000 in
theorem few17_any (l : List (List Bnd)) (v : Value) (w : World) (hl : IsMats w v l) :
    Calls Tryd.prog 5 #[v] w fun e w' => e = .returned (.bool (fewM l)) ∧ w = w' := by
  obtain ⟨A, c, rfl, h1, h2, hat⟩ := hl
  have hn := len_i64 h1 h2
  have HL := Lib.hid hat
  clear hat h1 h2
  go_enter Tryd.func5, Tryd.ntmps5
  go_wp2
  go_loop [3] (fun i => ∃ k : Nat, k ≤ l.length ∧ k ≤ 40 ∧ i = .int .i64 k ∧ Hid (∀ (j : Nat) (x : List Bnd), l[j]? = some x → j < k → shortM x = true)) (fun i => l.length - (intOf i).toNat)
  case atStart => exact ⟨0, Nat.zero_le _, by omega, rfl, fun _ _ _ h => absurd h (by omega)⟩
  case round =>
    obtain ⟨k, hk, hk20, rfl, hi⟩ := hrel
    by_cases hlt : k < l.length ∧ k < 40
    · obtain ⟨hlt1, hlt2⟩ := hlt
      obtain ⟨b, o, rfl, v, hv, c0⟩ := HL.out k l[k] (List.getElem?_eq_getElem hlt1)
      have hget := Lib.hid (List.getElem?_eq_getElem hlt1)
      obtain ⟨x, hx⟩ : ∃ x, x = l[k] := ⟨_, rfl⟩
      rw [← hx] at hv hget
      clear hx
      rw [Nat.mul_one] at c0
      obtain ⟨A', c', rfl, hx1, hx2, -⟩ := hv
      have hxn := len_i64 hx1 hx2
      clear hx1 hx2
      have hk' : (k : Int) < (l.length : Int) := by omega
      have hk'' : (k : Int) < 40 := by omega
      by_cases hb : (x.length : Int) ≤ 20
      · have HB : Hid (shortM x = true) := Lib.hid (decide_eq_true hb)
        have hb' : ¬ 20 < (x.length : Int) := by omega
        go_wp2
        go_round
        case rel =>
          refine ⟨k + 1, by omega, by omega, by go_num, ?_⟩
          intro j y hj hjk
          rcases Nat.lt_or_eq_of_le (Nat.le_of_lt_succ hjk) with h | h
          · exact hi j y hj h
          · subst h; rw [hget.out] at hj; injection hj with hj; subst hj; exact HB.out
        case measure => simp [intOf]; omega
      · have hb' : 20 < (x.length : Int) := by omega
        have HF : Hid (fewM l = false) := Lib.hid (by
          have : ((l.take 40).all shortM) = false := by
            rw [List.all_eq_false]
            refine ⟨x, ?_, by unfold shortM; simpa using hb⟩
            have h7 : (l.take 40)[k]? = some x := by rw [List.getElem?_take, if_pos hlt2]; exact hget.out
            exact List.mem_of_getElem? h7
          simp only [fewM, this, Bool.false_and])
        go_wp2
        go_ret
        rw [HF.out]
        exact ⟨rfl, rfl⟩
    · have HF : Hid (fewM l = decide ((l.length : Int) ≤ 30)) := Lib.hid (by
        have : ((l.take 40).all shortM) = true := by
          rw [List.all_eq_true]
          intro x hx
          obtain ⟨j, hj⟩ := List.mem_iff_getElem?.1 hx
          have hjl := (List.getElem?_eq_some_iff.1 hj).1
          rw [List.length_take] at hjl
          rw [List.getElem?_take, if_pos (by omega)] at hj
          exact hi j x hj (by omega)
        simp only [fewM, this, Bool.true_and])
      by_cases h1 : k < l.length
      · have h3 : (k : Int) < (l.length : Int) := by omega
        have h2 : ¬ (k : Int) < 40 := by omega
        have h4 : ¬ (l.length : Int) ≤ 30 := by omega
        have h5 : decide ((l.length : Int) ≤ 30) = false := by simpa using h4
        rw [h5] at HF
        clear hlt
        go_wp2
        go_ret
        rw [HF.out]
        exact ⟨rfl, rfl⟩
      · have h3 : ¬ (k : Int) < (l.length : Int) := by omega
        clear hlt
        by_cases h4 : (l.length : Int) ≤ 30
        · have h5 : decide ((l.length : Int) ≤ 30) = true := by simpa using h4
          rw [h5] at HF
          go_wp2
          go_ret
          rw [HF.out]
          exact ⟨rfl, rfl⟩
        · have h5 : decide ((l.length : Int) ≤ 30) = false := by simpa using h4
          rw [h5] at HF
          go_wp2
          go_ret
          rw [HF.out]
          exact ⟨rfl, rfl⟩
def shortV (x : Vl) : Bool := decide ((x.text.size : Int) ≤ 128)
def fewV (l : List Vl) : Bool := (l.take 40).all shortV && decide ((l.length : Int) < 40)
theorem fewV_parts {l : List Vl} (h : fewV l = true) : l.length < 40 ∧ ∀ x ∈ l, x.text.size ≤ 128 := by
  unfold fewV at h
  rw [Bool.and_eq_true] at h
  have h1 : l.length < 40 := by have := of_decide_eq_true h.2; omega
  refine ⟨h1, fun x hx => ?_⟩
  have h2 := h.1
  rw [List.take_of_length_le (Nat.le_of_lt h1), List.all_eq_true] at h2
  have := of_decide_eq_true (h2 x hx)
  omega

def shortE5 (x : Evt) : Bool := decide ((x.vals.length : Int) ≤ 12) && fewV x.vals
def fewE (l : List Evt) : Bool := (l.take 20).all shortE5 && decide ((l.length : Int) ≤ 12)
theorem fewE_parts {l : List Evt} (h : fewE l = true) : l.length ≤ 12 ∧ ∀ x ∈ l, x.vals.length ≤ 12 ∧ fewV x.vals = true := by
  unfold fewE at h
  rw [Bool.and_eq_true] at h
  have h1 : l.length ≤ 12 := by have := of_decide_eq_true h.2; omega
  refine ⟨h1, fun x hx => ?_⟩
  have h2 := h.1
  rw [List.take_of_length_le (show l.length ≤ 20 by omega), List.all_eq_true] at h2
  have h3 := h2 x hx
  unfold shortE5 at h3
  rw [Bool.and_eq_true] at h3
  have := of_decide_eq_true h3.1
  exact ⟨by omega, h3.2⟩

end Go.Proofs.YtclpglgigpjfoaaDoor
