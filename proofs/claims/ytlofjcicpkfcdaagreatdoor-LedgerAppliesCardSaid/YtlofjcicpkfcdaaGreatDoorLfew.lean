/- ref.Few at ledgers. -/
import Derived.Test.YtlofjcicpkfcdaaGreatDoorLled3
namespace Go.Proofs.YtlofjcicpkfcdaaGreatDoor
open Go.RowKit

def shortE (x : Ety) : Bool := decide ((x.bs.length : Int) ≤ 6)
def fewL (l : List Ety) : Bool := (l.take 12).all shortE && decide ((l.length : Int) ≤ 12)
theorem fewL_parts {l : List Ety} (h : fewL l = true) : l.length ≤ 12 ∧ ∀ x ∈ l, x.bs.length ≤ 6 := by
  unfold fewL at h
  rw [Bool.and_eq_true] at h
  have h1 : l.length ≤ 12 := by have := of_decide_eq_true h.2; omega
  refine ⟨h1, fun x hx => ?_⟩
  have h2 := h.1
  rw [List.take_of_length_le h1, List.all_eq_true] at h2
  have := of_decide_eq_true (h2 x hx)
  omega

set_option maxRecDepth 100000 in
set_option maxHeartbeats 1000000 in
theorem rfew_any (l : List Ety) (v : Value) (w : World) (hl : IsEnts w v l) :
    Calls Tryz.prog 4 #[v] w fun e w' => e = .returned (.bool (fewL l)) ∧ w = w' := by
  obtain ⟨A, c, rfl, h1, h2, hat⟩ := hl
  have hn := len_i64 h1 h2
  have HL := Lib.hid hat
  clear hat h1 h2
  go_enter Tryz.func4, Tryz.ntmps4
  go_wp2
  go_loop [3] (fun i => ∃ k : Nat, k ≤ l.length ∧ k ≤ 12 ∧ i = .int .i64 k ∧ Hid (∀ (j : Nat) (x : Ety), l[j]? = some x → j < k → shortE x = true)) (fun i => l.length - (intOf i).toNat)
  case atStart => exact ⟨0, Nat.zero_le _, by omega, rfl, fun _ _ _ h => absurd h (by omega)⟩
  case round =>
    obtain ⟨k, hk, hk20, rfl, hi⟩ := hrel
    by_cases hlt : k < l.length ∧ k < 12
    · obtain ⟨hlt1, hlt2⟩ := hlt
      obtain ⟨b, o, rfl, v, hv, c0, c1, c2⟩ := HL.out k l[k] (List.getElem?_eq_getElem hlt1)
      have hget := Lib.hid (List.getElem?_eq_getElem hlt1)
      obtain ⟨x, hx⟩ : ∃ x, x = l[k] := ⟨_, rfl⟩
      rw [← hx] at hv hget
      clear hx c0 c2
      obtain ⟨A', c', rfl, hx1, hx2, -⟩ := hv
      have hxn := len_i64 hx1 hx2
      clear hx1 hx2
      have hk' : (k : Int) < (l.length : Int) := by omega
      have hk'' : (k : Int) < 12 := by omega
      by_cases hb : (x.bs.length : Int) ≤ 6
      · have HB : Hid (shortE x = true) := Lib.hid (decide_eq_true hb)
        have hb' : ¬ 6 < (x.bs.length : Int) := by omega
        go_wp2
        go_round
        case rel =>
          refine ⟨k + 1, by omega, by omega, by go_num, ?_⟩
          intro j y hj hjk
          rcases Nat.lt_or_eq_of_le (Nat.le_of_lt_succ hjk) with h | h
          · exact hi j y hj h
          · subst h; rw [hget.out] at hj; injection hj with hj; subst hj; exact HB.out
        case measure => simp [intOf]; omega
      · have hb' : 6 < (x.bs.length : Int) := by omega
        have HF : Hid (fewL l = false) := Lib.hid (by
          have : ((l.take 12).all shortE) = false := by
            rw [List.all_eq_false]
            refine ⟨x, ?_, by unfold shortE; simpa using hb⟩
            have h7 : (l.take 12)[k]? = some x := by rw [List.getElem?_take, if_pos hlt2]; exact hget.out
            exact List.mem_of_getElem? h7
          simp only [fewL, this, Bool.false_and])
        go_wp2
        go_ret
        rw [HF.out]
        exact ⟨rfl, rfl⟩
    · have HF : Hid (fewL l = decide ((l.length : Int) ≤ 12)) := Lib.hid (by
        have : ((l.take 12).all shortE) = true := by
          rw [List.all_eq_true]
          intro x hx
          obtain ⟨j, hj⟩ := List.mem_iff_getElem?.1 hx
          have hjl := (List.getElem?_eq_some_iff.1 hj).1
          rw [List.length_take] at hjl
          rw [List.getElem?_take, if_pos (by omega)] at hj
          exact hi j x hj (by omega)
        simp only [fewL, this, Bool.true_and])
      by_cases h1 : k < l.length
      · have h3 : (k : Int) < (l.length : Int) := by omega
        have h2 : ¬ (k : Int) < 12 := by omega
        have h4 : ¬ (l.length : Int) ≤ 12 := by omega
        have h5 : decide ((l.length : Int) ≤ 12) = false := by simpa using h4
        rw [h5] at HF
        clear hlt
        go_wp2
        go_ret
        rw [HF.out]
        exact ⟨rfl, rfl⟩
      · have h3 : ¬ (k : Int) < (l.length : Int) := by omega
        have h4 : (l.length : Int) ≤ 12 := by omega
        have h5 : decide ((l.length : Int) ≤ 12) = true := by simpa using h4
        rw [h5] at HF
        clear hlt
        go_wp2
        go_ret
        rw [HF.out]
        exact ⟨rfl, rfl⟩
end Go.Proofs.YtlofjcicpkfcdaaGreatDoor
