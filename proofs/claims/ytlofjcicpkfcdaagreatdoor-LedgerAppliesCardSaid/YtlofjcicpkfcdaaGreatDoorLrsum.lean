/- ref.Sum, two, limited, Merge, Once. -/
import Derived.Test.YtlofjcicpkfcdaaGreatDoorLradd
import Derived.Test.YtlofjcicpkfcdaaGreatDoorLlaws
import Derived.Test.YtlofjcicpkfcdaaGreatDoorLawake
namespace Go.Proofs.YtlofjcicpkfcdaaGreatDoor
open Go.RowKit

def scaleE (f : Int) (b : List Ety) : List Ety := b.map fun x => ⟨x.q, x.bs, x.n * f⟩
theorem scale_take {f : Int} {b : List Ety} {k : Nat} {x : Ety} (h : b[k]? = some x) : scaleE f (b.take (k + 1)) = scaleE f (b.take k) ++ [⟨x.q, x.bs, x.n * f⟩] := by
  unfold scaleE; rw [take_snoc' h, List.map_append]; rfl
theorem absI_mul {f n : Int} (hf : f = 1 ∨ f = -1) : absI (n * f) = absI n := by
  unfold absI; rcases hf with rfl | rfl <;> (split <;> split <;> omega)
theorem sumA_scale {f : Int} (hf : f = 1 ∨ f = -1) (b : List Ety) : sumA (scaleE f b) = sumA b := by
  induction b with
  | nil => rfl
  | cons x b ih =>
    show absI (x.n * f) + sumA (scaleE f b) = absI x.n + sumA b
    rw [ih, absI_mul hf]
theorem sumE_snoc (a b : List Ety) (x : Ety) : sumE a (b ++ [x]) = addE (sumE a b) x := by unfold sumE; rw [List.foldl_append]; rfl


set_option maxRecDepth 100000 in
set_option maxHeartbeats 1000000 in
theorem rlimited_any (T : List Ety) (v : Value) (w : World) (hl : IsEnts w v T) : Calls Tryz.prog 26 #[v] w (LedRet w (limR T)) := by
  have HT := Lib.hid hl
  obtain ⟨A, c, rfl, h1, h2, hat⟩ := hl
  have hn := len_i64 h1 h2
  have HL := Lib.hid hat
  clear hat h1 h2
  unfold limR
  by_cases hm : 4096 < T.length
  · rw [if_pos hm]
    have hm' : (4096 : Int) < (T.length : Int) := by omega
    go_enter Tryz.func26, Tryz.ntmps26
    go_wp2_with fail
    go_ret2
    exact ⟨_, rfl, Sl.nil _ _ _ _ _ (Nat.zero_le _), Below.refl _ _⟩
  rw [if_neg hm]
  have hm' : ¬ (4096 : Int) < (T.length : Int) := by omega
  obtain ⟨R, hR⟩ : ∃ R : List Ety × Int, (if T.any (fun x => greatI x.n) = true then ([], 2) else (T, 0)) = R := ⟨_, rfl⟩
  have HR := Lib.hid hR
  rw [hR]
  clear hR hm
  go_enter Tryz.func26, Tryz.ntmps26
  go_wp2_with fail
  go_loop [4] (fun i => ∃ k : Nat, k ≤ T.length ∧ i = .int .i64 k ∧ Hid (∀ (j : Nat) (x : Ety), T[j]? = some x → j < k → greatI x.n = false)) (fun i => T.length - (intOf i).toNat)
  case atStart => exact ⟨0, Nat.zero_le _, rfl, Lib.hid fun _ _ _ h => absurd h (by omega)⟩
  case round =>
    obtain ⟨k, hk, rfl, hi⟩ := hrel
    by_cases hlt : k < T.length
    · have hk' : (k : Int) < (T.length : Int) := by omega
      obtain ⟨b1, o1, rfl, v', hv', x0, x1, x2⟩ := HL.out k T[k] (List.getElem?_eq_getElem hlt)
      have hget := Lib.hid (List.getElem?_eq_getElem hlt)
      obtain ⟨x, hx⟩ : ∃ x, x = T[k] := ⟨_, rfl⟩
      rw [← hx] at hget x2
      clear hx hv' x0 x1
      obtain ⟨g, hg⟩ : ∃ g, greatI x.n = g := ⟨_, rfl⟩
      have HG := Lib.hid hg
      clear hg
      cases g with
      | true =>
        have HX : Hid (R = ([], 2)) := Lib.hid (by
          rw [← HR.out, if_pos]
          exact List.any_eq_true.2 ⟨x, List.mem_of_getElem? hget.out, HG.out⟩)
        go_wp2_with (go_at_call 35; refine (rgreat_any _ _).mono ?_; rw [HG.out]; rintro e w' ⟨rfl, rfl⟩)
        go_ret2
        rw [HX.out]
        exact ⟨_, rfl, Sl.nil _ _ _ _ _ (Nat.zero_le _), Below.refl _ _⟩
      | false =>
        go_wp2_with (go_at_call 35; refine (rgreat_any _ _).mono ?_; rw [HG.out]; rintro e w' ⟨rfl, rfl⟩)
        go_round
        case rel =>
          refine ⟨k + 1, by omega, by go_num, Lib.hid ?_⟩
          intro j y hj hjk
          rcases Nat.lt_or_eq_of_le (Nat.le_of_lt_succ hjk) with h | h
          · exact hi.out j y hj h
          · subst h; rw [hget.out] at hj; injection hj with hj; subst hj; exact HG.out
        case measure => simp [intOf]; omega
    · have hk' : ¬ (k : Int) < (T.length : Int) := by omega
      have HX : Hid (R = (T, 0)) := Lib.hid (by
        rw [← HR.out, if_neg]
        intro h
        obtain ⟨x, hx, hg⟩ := List.any_eq_true.1 h
        obtain ⟨j, hj⟩ := List.mem_iff_getElem?.1 hx
        have := hi.out j x hj (by have := (List.getElem?_eq_some_iff.1 hj).1; omega)
        rw [this] at hg; exact absurd hg (by decide))
      go_wp2_with fail
      go_ret2
      rw [HX.out]
      exact ⟨_, rfl, HT.out, Below.refl _ _⟩

theorem scale_one (b : List Ety) : scaleE 1 b = b := by
  unfold scaleE
  conv => rhs; rw [← List.map_id b]
  refine List.map_congr_left fun x _ => ?_
  cases x; simp
theorem scale_neg (b : List Ety) : scaleE (-1) b = neg b := by
  unfold scaleE neg
  refine List.map_congr_left fun x _ => ?_
  simp only [Ety.mk.injEq, true_and]; omega
theorem fit_sum {l : List Ety} (hf : ∀ x ∈ l, FitE x) (hl : l.length ≤ 100) : sumA l ≤ 109951162777600 := by
  have := sumA_le (l := l) (B := 1099511627776) fun x hx => by have := (hf x hx).2; unfold absI; split <;> omega
  omega
theorem both_0 {a b : List Ety} (h : bothE a b = 0) : ledErr a = 0 ∧ ledErr b = 0 := by
  unfold bothE at h
  split at h
  · next h1 => exact absurd h h1
  · next h1 => exact ⟨by simpa using h1, h⟩

end Go.Proofs.YtlofjcicpkfcdaaGreatDoor
