/- cmp.Compare, cmp.Or, the orders of the packages match and ledger, and those of the references. -/
import Derived.Test.YtclpglgigpjfoaaDoorProg
import Derived.Test.YtclpglgigpjfoaaDoorLdata
import Derived.Deep.RegionHeld3
namespace Go.Proofs.YtclpglgigpjfoaaDoor
open Go.RowKit

theorem isNaN_any (x : Int) (w : World) : Calls Tryd.prog 42 #[.int .i64 x] w fun e w' => e = .returned (.bool false) ∧ w = w' := by
  go_enter Tryd.func42, Tryd.ntmps42
  go_wp2
  go_ret
  exact ⟨by simp, rfl⟩

theorem compare_any (x y : Int) (w : World) : Calls Tryd.prog 25 #[.int .i64 x, .int .i64 y] w fun e w' => e = .returned (.int .i64 (cmpI x y)) ∧ w = w' := by
  unfold cmpI
  rcases Int.lt_trichotomy x y with h | h | h
  · rw [if_pos h]
    go_enter Tryd.func25, Tryd.ntmps25
    go_wp2_with (go_at_call 42; refine (isNaN_any _ _).mono ?_; rintro e w' ⟨rfl, rfl⟩)
    go_ret
    exact ⟨rfl, rfl⟩
  · subst h
    rw [if_neg (by omega), if_neg (by omega)]
    go_enter Tryd.func25, Tryd.ntmps25
    go_wp2_with (go_at_call 42; refine (isNaN_any _ _).mono ?_; rintro e w' ⟨rfl, rfl⟩)
    go_ret
    exact ⟨rfl, rfl⟩
  · rw [if_neg (by omega), if_pos h]
    go_enter Tryd.func25, Tryd.ntmps25
    go_wp2_with (go_at_call 42; refine (isNaN_any _ _).mono ?_; rintro e w' ⟨rfl, rfl⟩)
    go_ret
    exact ⟨rfl, rfl⟩

/-- the first number that is not 0 -/
def orL : List Int → Int
  | [] => 0
  | x :: l => if x = 0 then orL l else x
theorem orL_zero {l : List Int} (h : ∀ x ∈ l, x = 0) : orL l = 0 := by
  induction l with
  | nil => rfl
  | cons x l ih => simp only [orL]; rw [if_pos (h x (List.mem_cons_self ..))]; exact ih fun y hy => h y (List.mem_cons_of_mem _ hy)
theorem orL_at {l : List Int} {k : Nat} {x : Int} (h : l[k]? = some x) (hx : x ≠ 0) (hno : ∀ (j : Nat) (y : Int), l[j]? = some y → j < k → y = 0) : orL l = x := by
  induction l generalizing k with
  | nil => simp at h
  | cons y l ih =>
    cases k with
    | zero => simp at h; subst h; simp only [orL]; rw [if_neg hx]
    | succ k =>
      simp only [orL]
      rw [if_pos (hno 0 y rfl (by omega))]
      exact ih (by simpa using h) fun j z hj hjk => hno (j + 1) z (by simpa using hj) (by omega)

set_option maxRecDepth 100000 in
set_option maxHeartbeats 1000000 in
theorem or_any (l : List Int) (v : Value) (w : World) (hl : IsInts w v l) :
    Calls Tryd.prog 24 #[v] w fun e w' => e = .returned (.int .i64 (orL l)) ∧ w = w' := by
  obtain ⟨A, c, rfl, h1, h2, hat⟩ := hl
  have hn := len_i64 h1 h2
  have HL := Lib.hid hat
  clear hat h1 h2
  go_enter Tryd.func24, Tryd.ntmps24
  go_wp2_with fail
  go_loopw [8] (fun i wr => wr = w ∧ ∃ k : Nat, k ≤ l.length ∧ i = .int .i64 k ∧ Hid (∀ (j : Nat) (y : Int), l[j]? = some y → j < k → y = 0)) (fun i _ => l.length - (intOf i).toNat)
  case atStart => exact ⟨rfl, 0, Nat.zero_le _, rfl, fun _ _ _ h => absurd h (by omega)⟩
  case round =>
    obtain ⟨rfl, k, hk, rfl, hi⟩ := hrel
    by_cases hlt : k < l.length
    · obtain ⟨b, o, rfl, c0⟩ := HL.out k l[k] (List.getElem?_eq_getElem hlt)
      unfold IntAt at c0
      simp only [Nat.mul_one] at c0
      have hget := Lib.hid (List.getElem?_eq_getElem hlt)
      obtain ⟨x, hx⟩ : ∃ x, x = l[k] := ⟨_, rfl⟩
      rw [← hx] at hget c0
      clear hx
      have hk' : (k : Int) < (l.length : Int) := by omega
      by_cases hx0 : x = 0
      · subst hx0
        go_wp2_with fail
        go_roundw
        case rel =>
          refine ⟨by trivial, k + 1, by omega, by go_num, ?_⟩
          intro j y hj hjk
          rcases Nat.lt_or_eq_of_le (Nat.le_of_lt_succ hjk) with h | h
          · exact hi.out j y hj h
          · subst h; rw [hget.out] at hj; injection hj with hj; exact hj.symm
        case measure => simp [intOf]; omega
      · have hx' : (x != 0) = true := by simpa using hx0
        have HX := Lib.hid hx0
        clear hx0
        go_wp2_with fail
        go_ret
        rw [orL_at hget.out HX.out hi.out]
        exact ⟨rfl, rfl⟩
    · go_wp2_with fail
      go_ret
      rw [orL_zero fun x hx => by
        obtain ⟨j, hj⟩ := List.mem_iff_getElem?.1 hx
        exact hi.out j x hj (by have := (List.getElem?_eq_some_iff.1 hj).1; omega)]
      exact ⟨rfl, rfl⟩

theorem orL_two (x y : Int) : orL [x, y] = orI x y := by
  simp only [orL, orI]
  by_cases hx : x = 0
  · by_cases hy : y = 0 <;> simp [hx, hy]
  · simp [hx]
theorem orL_three (x y z : Int) : orL [x, y, z] = orI (orI x y) z := by
  simp only [orL, orI]
  by_cases hx : x = 0
  · by_cases hy : y = 0
    · by_cases hz : z = 0 <;> simp [hx, hy, hz]
    · simp [hx, hy]
  · simp [hx]
theorem ints_two {b : Nat} {x y : Int} {w : World} (h0 : w.cell? ⟨b, 0, none⟩ = some (.int .i64 x)) (h1 : w.cell? ⟨b, 1, none⟩ = some (.int .i64 y)) : IsInts w (.slice (some ⟨b, 0, none⟩) 2 2) [x, y] :=
  ⟨_, 2, rfl, Nat.le_refl _, by decide, fun k u hk => ⟨b, 0, rfl, by
    match k, hk with
    | 0, hk => simp at hk; subst hk; exact h0
    | 1, hk => simp at hk; subst hk; exact h1
    | k + 2, hk => simp at hk⟩⟩
theorem ints_three {b : Nat} {x y z : Int} {w : World} (h0 : w.cell? ⟨b, 0, none⟩ = some (.int .i64 x)) (h1 : w.cell? ⟨b, 1, none⟩ = some (.int .i64 y)) (h2 : w.cell? ⟨b, 2, none⟩ = some (.int .i64 z)) : IsInts w (.slice (some ⟨b, 0, none⟩) 3 3) [x, y, z] :=
  ⟨_, 3, rfl, Nat.le_refl _, by decide, fun k u hk => ⟨b, 0, rfl, by
    match k, hk with
    | 0, hk => simp at hk; subst hk; exact h0
    | 1, hk => simp at hk; subst hk; exact h1
    | 2, hk => simp at hk; subst hk; exact h2
    | k + 3, hk => simp at hk⟩⟩
theorem or_two (b : Nat) (x y : Int) (w : World) (h0 : w.cell? ⟨b, 0, none⟩ = some (.int .i64 x)) (h1 : w.cell? ⟨b, 1, none⟩ = some (.int .i64 y)) :
    Calls Tryd.prog 24 #[.slice (some ⟨b, 0, none⟩) 2 2] w fun e w' => e = .returned (.int .i64 (orI x y)) ∧ w = w' := by
  have := or_any _ _ w (ints_two h0 h1)
  rwa [orL_two] at this
theorem or_three (b : Nat) (x y z : Int) (w : World) (h0 : w.cell? ⟨b, 0, none⟩ = some (.int .i64 x)) (h1 : w.cell? ⟨b, 1, none⟩ = some (.int .i64 y)) (h2 : w.cell? ⟨b, 2, none⟩ = some (.int .i64 z)) :
    Calls Tryd.prog 24 #[.slice (some ⟨b, 0, none⟩) 3 3] w fun e w' => e = .returned (.int .i64 (orI (orI x y) z)) ∧ w = w' := by
  have := or_any _ _ w (ints_three h0 h1 h2)
  rwa [orL_three] at this

set_option maxHeartbeats 1000000 in
theorem refs_any (t1 s1 n1 t2 s2 n2 : Int) (w : World) :
    Calls Tryd.prog 21 #[.agg #[.int .i64 t1, .int .i64 s1, .int .i64 n1], .agg #[.int .i64 t2, .int .i64 s2, .int .i64 n2]] w fun e w' =>
      e = .returned (.int .i64 (orI (orI (cmpI t1 t2) (cmpI s1 s2)) (cmpI n1 n2))) ∧ Gr w w' := by
  go_enter Tryd.func21, Tryd.ntmps21
  go_wp2
  go_region_held3 (fun w' => w'.cell? ⟨w.heap.size, 0, none⟩ = some (.int .i64 t1) ∧ w'.cell? ⟨w.heap.size, 1, none⟩ = some (.int .i64 s1) ∧ w'.cell? ⟨w.heap.size, 2, none⟩ = some (.int .i64 n1) ∧ w'.cell? ⟨w.heap.size + 1, 0, none⟩ = some (.int .i64 t2) ∧ w'.cell? ⟨w.heap.size + 1, 1, none⟩ = some (.int .i64 s2) ∧ w'.cell? ⟨w.heap.size + 1, 2, none⟩ = some (.int .i64 n2)) (go_keep)
    (first | (go_at_call 25; refine (compare_any _ _ _).mono ?_; rintro e w' ⟨rfl, rfl⟩) | (go_at_call 24; refine (or_three _ (cmpI t1 t2) (cmpI s1 s2) (cmpI n1 n2) _ ?_ ?_ ?_).mono ?_; (go_simp); (go_simp); (go_simp); rintro e w' ⟨rfl, rfl⟩))
  go_wp2
  go_ret
  exact ⟨rfl, (by repeat (first | exact Gr.refl _ | assumption | refine Gr.drew ?_ | refine Gr.alloc ?_ _ | refine Gr.set ?_ (by omega) _ | refine Gr.trans ?_ (by assumption)))⟩

theorem refs_bnd (a b : Bnd) (w : World) :
    Calls Tryd.prog 21 #[.agg #[.int .i64 a.t, .int .i64 a.s, .int .i64 a.n], .agg #[.int .i64 b.t, .int .i64 b.s, .int .i64 b.n]] w fun e w' => e = .returned (.int .i64 (refsC a b)) ∧ Gr w w' := refs_any _ _ _ _ _ _ w

set_option maxHeartbeats 1000000 in
theorem bnds_any (a b : Bnd) (w : World) :
    Calls Tryd.prog 23 #[bndV a, bndV b] w fun e w' => e = .returned (.int .i64 (bndC a b)) ∧ Gr w w' := by
  unfold bndV
  go_enter Tryd.func23, Tryd.ntmps23
  go_wp2
  refine wp_gen fun w2 e2 => ?_; have hFF : Hid ((fun w' => w'.cell? ⟨w.heap.size, 0, none⟩ = some (.int .i64 a.v) ∧ w'.cell? ⟨w.heap.size, 1, none⟩ = some (.int .i64 a.t) ∧ w'.cell? ⟨w.heap.size, 2, none⟩ = some (.int .i64 a.s) ∧ w'.cell? ⟨w.heap.size, 3, none⟩ = some (.int .i64 a.n) ∧ w'.cell? ⟨w.heap.size + 1, 0, none⟩ = some (.int .i64 b.v) ∧ w'.cell? ⟨w.heap.size + 1, 1, none⟩ = some (.int .i64 b.t) ∧ w'.cell? ⟨w.heap.size + 1, 2, none⟩ = some (.int .i64 b.s) ∧ w'.cell? ⟨w.heap.size + 1, 3, none⟩ = some (.int .i64 b.n)) w2) := Lib.hid (by subst e2; (first | exact ⟨‹_›, ‹_›⟩ | (go_simp; done) | (simp [*]; done))); have hGG : Hid (Grows (fun w' => w'.cell? ⟨w.heap.size, 0, none⟩ = some (.int .i64 a.v) ∧ w'.cell? ⟨w.heap.size, 1, none⟩ = some (.int .i64 a.t) ∧ w'.cell? ⟨w.heap.size, 2, none⟩ = some (.int .i64 a.s) ∧ w'.cell? ⟨w.heap.size, 3, none⟩ = some (.int .i64 a.n) ∧ w'.cell? ⟨w.heap.size + 1, 0, none⟩ = some (.int .i64 b.v) ∧ w'.cell? ⟨w.heap.size + 1, 1, none⟩ = some (.int .i64 b.t) ∧ w'.cell? ⟨w.heap.size + 1, 2, none⟩ = some (.int .i64 b.s) ∧ w'.cell? ⟨w.heap.size + 1, 3, none⟩ = some (.int .i64 b.n))) := (by repeat (first | exact grows_cell _ _ _ | exact grows_true | refine grows_and ?_ ?_)); have hg2 : Gr w w2 := (by subst e2; exact (by repeat (first | exact Gr.refl _ | assumption | refine Gr.drew ?_ | refine Gr.alloc ?_ _ | refine Gr.set ?_ (by omega) _ | refine Gr.trans ?_ (by assumption)))); clear e2; have hFF' := hFF.out; go_region_held3 (fun w' => w'.cell? ⟨w.heap.size, 0, none⟩ = some (.int .i64 a.v) ∧ w'.cell? ⟨w.heap.size, 1, none⟩ = some (.int .i64 a.t) ∧ w'.cell? ⟨w.heap.size, 2, none⟩ = some (.int .i64 a.s) ∧ w'.cell? ⟨w.heap.size, 3, none⟩ = some (.int .i64 a.n) ∧ w'.cell? ⟨w.heap.size + 1, 0, none⟩ = some (.int .i64 b.v) ∧ w'.cell? ⟨w.heap.size + 1, 1, none⟩ = some (.int .i64 b.t) ∧ w'.cell? ⟨w.heap.size + 1, 2, none⟩ = some (.int .i64 b.s) ∧ w'.cell? ⟨w.heap.size + 1, 3, none⟩ = some (.int .i64 b.n)) (with_reducible exact hGG.out.to (Gr.below (by repeat (first | with_reducible exact Gr.refl _ | assumption | with_reducible refine Gr.drew ?_ | with_reducible refine Gr.alloc ?_ _ | with_reducible refine Gr.trans ?_ (by assumption)))) hFF.out) (first | (go_at_call 21; refine (refs_bnd a b _).mono ?_; rintro e w3 ⟨rfl, hg3⟩) | (go_at_call 25; refine (compare_any _ _ _).mono ?_; rintro e w' ⟨rfl, rfl⟩) | (go_at_call 24; refine (or_two _ (refsC a b) (cmpI a.v b.v) _ ?_ ?_).mono ?_; (go_simp); (go_simp); rintro e w' ⟨rfl, rfl⟩))
  go_wp2
  go_ret
  exact ⟨rfl, (by repeat (first | exact Gr.refl _ | assumption | refine Gr.drew ?_ | refine Gr.alloc ?_ _ | refine Gr.set ?_ (by omega) _ | refine Gr.trans ?_ (by assumption)))⟩
end Go.Proofs.YtclpglgigpjfoaaDoor
