/- cmp.Compare, cmp.Or, the orders of the packages match and ledger, and those of the references. -/
import Derived.Test.YtclpglgigpjfoaaGreatDoorProg
import Derived.Test.YtclpglgigpjfoaaGreatDoorQLdata
import Derived.Deep.RegionHeld3
namespace Go.Proofs.YtclpglgigpjfoaaGreatDoor
open Go.RowKit

theorem isNaN_any (x : Int) (w : World) : Calls Tryz.prog 83 #[.int .i64 x] w fun e w' => e = .returned (.bool false) ∧ w = w' := by
  go_enter Tryz.func83, Tryz.ntmps83
  go_wp2
  go_ret
  exact ⟨by simp, rfl⟩

theorem compare_any (x y : Int) (w : World) : Calls Tryz.prog 55 #[.int .i64 x, .int .i64 y] w fun e w' => e = .returned (.int .i64 (cmpI x y)) ∧ w = w' := by
  unfold cmpI
  rcases Int.lt_trichotomy x y with h | h | h
  · rw [if_pos h]
    go_enter Tryz.func55, Tryz.ntmps55
    go_wp2_with (go_at_call 83; refine (isNaN_any _ _).mono ?_; rintro e w' ⟨rfl, rfl⟩)
    go_ret
    exact ⟨rfl, rfl⟩
  · subst h
    rw [if_neg (by omega), if_neg (by omega)]
    go_enter Tryz.func55, Tryz.ntmps55
    go_wp2_with (go_at_call 83; refine (isNaN_any _ _).mono ?_; rintro e w' ⟨rfl, rfl⟩)
    go_ret
    exact ⟨rfl, rfl⟩
  · rw [if_neg (by omega), if_pos h]
    go_enter Tryz.func55, Tryz.ntmps55
    go_wp2_with (go_at_call 83; refine (isNaN_any _ _).mono ?_; rintro e w' ⟨rfl, rfl⟩)
    go_ret
    exact ⟨rfl, rfl⟩

/-- the first number that is not 0 -/
def orL : List Int → Int
  | [] => 0
  | x :: l => if x = 0 then orL l else x
theorem orL_zero {l : List Int} (h : ∀ x ∈ l, x = 0) : orL l = 0 := by
  induction l with
  | nil => rfl
  | cons x l ih => simp only [orL]; rw [if_pos (h x (List.mem_cons_self ..))]; exact ih fun y hy => h y (List.mem_cons_of_mem _ hy)
theorem orL_at {l : List Int} {k : Nat} {x : Int} (h : l[k]? = some x) (hx : x ≠ 0) (hno : ∀ (j : Nat) (y : Int), l[j]? = some y → j < k → y = 0) : orL l = x := by
  induction l generalizing k with
  | nil => simp at h
  | cons y l ih =>
    cases k with
    | zero => simp at h; subst h; simp only [orL]; rw [if_neg hx]
    | succ k =>
      simp only [orL]
      rw [if_pos (hno 0 y rfl (by omega))]
      exact ih (by simpa using h) fun j z hj hjk => hno (j + 1) z (by simpa using hj) (by omega)

set_option maxRecDepth 100000 in
set_option maxHeartbeats 1000000 in
theorem or_any (l : List Int) (v : Value) (w : World) (hl : IsInts w v l) :
    Calls Tryz.prog 54 #[v] w fun e w' => e = .returned (.int .i64 (orL l)) ∧ w = w' := by
  obtain ⟨A, c, rfl, h1, h2, hat⟩ := hl
  have hn := len_i64 h1 h2
  have HL := Lib.hid hat
  clear hat h1 h2
  go_enter Tryz.func54, Tryz.ntmps54
  go_wp2_with fail
  go_loopw [8] (fun i wr => wr = w ∧ ∃ k : Nat, k ≤ l.length ∧ i = .int .i64 k ∧ Hid (∀ (j : Nat) (y : Int), l[j]? = some y → j < k → y = 0)) (fun i _ => l.length - (intOf i).toNat)
  case atStart => exact ⟨rfl, 0, Nat.zero_le _, rfl, fun _ _ _ h => absurd h (by omega)⟩
  case round =>
    obtain ⟨rfl, k, hk, rfl, hi⟩ := hrel
    by_cases hlt : k < l.length
    · obtain ⟨b, o, rfl, c0⟩ := HL.out k l[k] (List.getElem?_eq_getElem hlt)
      unfold IntAt at c0
      simp only [Nat.mul_one] at c0
      have hget := Lib.hid (List.getElem?_eq_getElem hlt)
      obtain ⟨x, hx⟩ : ∃ x, x = l[k] := ⟨_, rfl⟩
      rw [← hx] at hget c0
      clear hx
      have hk' : (k : Int) < (l.length : Int) := by omega
      by_cases hx0 : x = 0
      · subst hx0
        go_wp2_with fail
        go_roundw
        case rel =>
          refine ⟨by trivial, k + 1, by omega, by go_num, ?_⟩
          intro j y hj hjk
          rcases Nat.lt_or_eq_of_le (Nat.le_of_lt_succ hjk) with h | h
          · exact hi.out j y hj h
          · subst h; rw [hget.out] at hj; injection hj with hj; exact hj.symm
        case measure => simp [intOf]; omega
      · have hx' : (x != 0) = true := by simpa using hx0
        have HX := Lib.hid hx0
        clear hx0
        go_wp2_with fail
        go_ret
        rw [orL_at hget.out HX.out hi.out]
        exact ⟨rfl, rfl⟩
    · go_wp2_with fail
      go_ret
      rw [orL_zero fun x hx => by
        obtain ⟨j, hj⟩ := List.mem_iff_getElem?.1 hx
        exact hi.out j x hj (by have := (List.getElem?_eq_some_iff.1 hj).1; omega)]
      exact ⟨rfl, rfl⟩

theorem orL_two (x y : Int) : orL [x, y] = orI x y := by
  simp only [orL, orI]
  by_cases hx : x = 0
  · by_cases hy : y = 0 <;> simp [hx, hy]
  · simp [hx]
theorem orL_three (x y z : Int) : orL [x, y, z] = orI (orI x y) z := by
  simp only [orL, orI]
  by_cases hx : x = 0
  · by_cases hy : y = 0
    · by_cases hz : z = 0 <;> simp [hx, hy, hz]
    · simp [hx, hy]
  · simp [hx]
theorem ints_two {b : Nat} {x y : Int} {w : World} (h0 : w.cell? ⟨b, 0, none⟩ = some (.int .i64 x)) (h1 : w.cell? ⟨b, 1, none⟩ = some (.int .i64 y)) : IsInts w (.slice (some ⟨b, 0, none⟩) 2 2) [x, y] :=
  ⟨_, 2, rfl, Nat.le_refl _, by decide, fun k u hk => ⟨b, 0, rfl, by
    match k, hk with
    | 0, hk => simp at hk; subst hk; exact h0
    | 1, hk => simp at hk; subst hk; exact h1
    | k + 2, hk => simp at hk⟩⟩
theorem ints_three {b : Nat} {x y z : Int} {w : World} (h0 : w.cell? ⟨b, 0, none⟩ = some (.int .i64 x)) (h1 : w.cell? ⟨b, 1, none⟩ = some (.int .i64 y)) (h2 : w.cell? ⟨b, 2, none⟩ = some (.int .i64 z)) : IsInts w (.slice (some ⟨b, 0, none⟩) 3 3) [x, y, z] :=
  ⟨_, 3, rfl, Nat.le_refl _, by decide, fun k u hk => ⟨b, 0, rfl, by
    match k, hk with
    | 0, hk => simp at hk; subst hk; exact h0
    | 1, hk => simp at hk; subst hk; exact h1
    | 2, hk => simp at hk; subst hk; exact h2
    | k + 3, hk => simp at hk⟩⟩
theorem or_two (b : Nat) (x y : Int) (w : World) (h0 : w.cell? ⟨b, 0, none⟩ = some (.int .i64 x)) (h1 : w.cell? ⟨b, 1, none⟩ = some (.int .i64 y)) :
    Calls Tryz.prog 54 #[.slice (some ⟨b, 0, none⟩) 2 2] w fun e w' => e = .returned (.int .i64 (orI x y)) ∧ w = w' := by
  have := or_any _ _ w (ints_two h0 h1)
  rwa [orL_two] at this
theorem or_three (b : Nat) (x y z : Int) (w : World) (h0 : w.cell? ⟨b, 0, none⟩ = some (.int .i64 x)) (h1 : w.cell? ⟨b, 1, none⟩ = some (.int .i64 y)) (h2 : w.cell? ⟨b, 2, none⟩ = some (.int .i64 z)) :
    Calls Tryz.prog 54 #[.slice (some ⟨b, 0, none⟩) 3 3] w fun e w' => e = .returned (.int .i64 (orI (orI x y) z)) ∧ w = w' := by
  have := or_any _ _ w (ints_three h0 h1 h2)
  rwa [orL_three] at this

set_option maxHeartbeats 1000000 in
theorem refs_any (t1 s1 n1 t2 s2 n2 : Int) (w : World) :
    Calls Tryz.prog 50 #[.agg #[.int .i64 t1, .int .i64 s1, .int .i64 n1], .agg #[.int .i64 t2, .int .i64 s2, .int .i64 n2]] w fun e w' =>
      e = .returned (.int .i64 (orI (orI (cmpI t1 t2) (cmpI s1 s2)) (cmpI n1 n2))) ∧ Gr w w' := by
  go_enter Tryz.func50, Tryz.ntmps50
  go_wp2
  go_region_held3 (fun w' => w'.cell? ⟨w.heap.size, 0, none⟩ = some (.int .i64 t1) ∧ w'.cell? ⟨w.heap.size, 1, none⟩ = some (.int .i64 s1) ∧ w'.cell? ⟨w.heap.size, 2, none⟩ = some (.int .i64 n1) ∧ w'.cell? ⟨w.heap.size + 1, 0, none⟩ = some (.int .i64 t2) ∧ w'.cell? ⟨w.heap.size + 1, 1, none⟩ = some (.int .i64 s2) ∧ w'.cell? ⟨w.heap.size + 1, 2, none⟩ = some (.int .i64 n2)) (go_keep)
    (first | (go_at_call 55; refine (compare_any _ _ _).mono ?_; rintro e w' ⟨rfl, rfl⟩) | (go_at_call 54; refine (or_three _ (cmpI t1 t2) (cmpI s1 s2) (cmpI n1 n2) _ ?_ ?_ ?_).mono ?_; (go_simp); (go_simp); (go_simp); rintro e w' ⟨rfl, rfl⟩))
  go_wp2
  go_ret
  exact ⟨rfl, (by repeat (first | exact Gr.refl _ | assumption | refine Gr.drew ?_ | refine Gr.alloc ?_ _ | refine Gr.set ?_ (by omega) _ | refine Gr.trans ?_ (by assumption)))⟩

theorem refs_bnd (a b : Bnd) (w : World) :
    Calls Tryz.prog 50 #[.agg #[.int .i64 a.t, .int .i64 a.s, .int .i64 a.n], .agg #[.int .i64 b.t, .int .i64 b.s, .int .i64 b.n]] w fun e w' => e = .returned (.int .i64 (refsC a b)) ∧ Gr w w' := refs_any _ _ _ _ _ _ w

set_option maxHeartbeats 1000000 in
theorem bnds_any (a b : Bnd) (w : World) :
    Calls Tryz.prog 53 #[bndV a, bndV b] w fun e w' => e = .returned (.int .i64 (bndC a b)) ∧ Gr w w' := by
  unfold bndV
  go_enter Tryz.func53, Tryz.ntmps53
  go_wp2
  refine wp_gen fun w2 e2 => ?_; have hFF : Hid ((fun w' => w'.cell? ⟨w.heap.size, 0, none⟩ = some (.int .i64 a.v) ∧ w'.cell? ⟨w.heap.size, 1, none⟩ = some (.int .i64 a.t) ∧ w'.cell? ⟨w.heap.size, 2, none⟩ = some (.int .i64 a.s) ∧ w'.cell? ⟨w.heap.size, 3, none⟩ = some (.int .i64 a.n) ∧ w'.cell? ⟨w.heap.size + 1, 0, none⟩ = some (.int .i64 b.v) ∧ w'.cell? ⟨w.heap.size + 1, 1, none⟩ = some (.int .i64 b.t) ∧ w'.cell? ⟨w.heap.size + 1, 2, none⟩ = some (.int .i64 b.s) ∧ w'.cell? ⟨w.heap.size + 1, 3, none⟩ = some (.int .i64 b.n)) w2) := Lib.hid (by subst e2; (first | exact ⟨‹_›, ‹_›⟩ | (go_simp; done) | (simp [*]; done))); have hGG : Hid (Grows (fun w' => w'.cell? ⟨w.heap.size, 0, none⟩ = some (.int .i64 a.v) ∧ w'.cell? ⟨w.heap.size, 1, none⟩ = some (.int .i64 a.t) ∧ w'.cell? ⟨w.heap.size, 2, none⟩ = some (.int .i64 a.s) ∧ w'.cell? ⟨w.heap.size, 3, none⟩ = some (.int .i64 a.n) ∧ w'.cell? ⟨w.heap.size + 1, 0, none⟩ = some (.int .i64 b.v) ∧ w'.cell? ⟨w.heap.size + 1, 1, none⟩ = some (.int .i64 b.t) ∧ w'.cell? ⟨w.heap.size + 1, 2, none⟩ = some (.int .i64 b.s) ∧ w'.cell? ⟨w.heap.size + 1, 3, none⟩ = some (.int .i64 b.n))) := (by repeat (first | exact grows_cell _ _ _ | exact grows_true | refine grows_and ?_ ?_)); have hg2 : Gr w w2 := (by subst e2; exact (by repeat (first | exact Gr.refl _ | assumption | refine Gr.drew ?_ | refine Gr.alloc ?_ _ | refine Gr.set ?_ (by omega) _ | refine Gr.trans ?_ (by assumption)))); clear e2; have hFF' := hFF.out; go_region_held3 (fun w' => w'.cell? ⟨w.heap.size, 0, none⟩ = some (.int .i64 a.v) ∧ w'.cell? ⟨w.heap.size, 1, none⟩ = some (.int .i64 a.t) ∧ w'.cell? ⟨w.heap.size, 2, none⟩ = some (.int .i64 a.s) ∧ w'.cell? ⟨w.heap.size, 3, none⟩ = some (.int .i64 a.n) ∧ w'.cell? ⟨w.heap.size + 1, 0, none⟩ = some (.int .i64 b.v) ∧ w'.cell? ⟨w.heap.size + 1, 1, none⟩ = some (.int .i64 b.t) ∧ w'.cell? ⟨w.heap.size + 1, 2, none⟩ = some (.int .i64 b.s) ∧ w'.cell? ⟨w.heap.size + 1, 3, none⟩ = some (.int .i64 b.n)) (with_reducible exact hGG.out.to (Gr.below (by repeat (first | with_reducible exact Gr.refl _ | assumption | with_reducible refine Gr.drew ?_ | with_reducible refine Gr.alloc ?_ _ | with_reducible refine Gr.trans ?_ (by assumption)))) hFF.out) (first | (go_at_call 50; refine (refs_bnd a b _).mono ?_; rintro e w3 ⟨rfl, hg3⟩) | (go_at_call 55; refine (compare_any _ _ _).mono ?_; rintro e w' ⟨rfl, rfl⟩) | (go_at_call 54; refine (or_two _ (refsC a b) (cmpI a.v b.v) _ ?_ ?_).mono ?_; (go_simp); (go_simp); rintro e w' ⟨rfl, rfl⟩))
  go_wp2
  go_ret
  exact ⟨rfl, (by repeat (first | exact Gr.refl _ | assumption | refine Gr.drew ?_ | refine Gr.alloc ?_ _ | refine Gr.set ?_ (by omega) _ | refine Gr.trans ?_ (by assumption)))⟩
end Go.Proofs.YtclpglgigpjfoaaGreatDoor
namespace Go.Proofs.YtclpglgigpjfoaaGreatDoor
open Go.RowKit

theorem bsC_both {l m : List Bnd} {k : Nat} {x y : Bnd} (hx : l[k]? = some x) (hy : m[k]? = some y) : bsC (l.drop k) (m.drop k) = orI (bndC x y) (bsC (l.drop (k + 1)) (m.drop (k + 1))) := by
  obtain ⟨h1, rfl⟩ := List.getElem?_eq_some_iff.1 hx
  obtain ⟨h2, rfl⟩ := List.getElem?_eq_some_iff.1 hy
  rw [List.drop_eq_getElem_cons h1, List.drop_eq_getElem_cons h2]
  rfl
theorem bsC_left {l m : List Bnd} {k : Nat} {x : Bnd} (hx : l[k]? = some x) (hy : m.length ≤ k) : bsC (l.drop k) (m.drop k) = 1 := by
  obtain ⟨h1, rfl⟩ := List.getElem?_eq_some_iff.1 hx
  rw [List.drop_eq_getElem_cons h1, List.drop_eq_nil_of_le hy]
  rfl
theorem bsC_end {l m : List Bnd} {k : Nat} (hx : l.length ≤ k) : bsC (l.drop k) (m.drop k) = if k < m.length then -1 else 0 := by
  rw [List.drop_eq_nil_of_le hx]
  by_cases h : k < m.length
  · rw [if_pos h, List.drop_eq_getElem_cons h]; rfl
  · rw [if_neg h, List.drop_eq_nil_of_le (by omega)]; rfl

set_option maxRecDepth 100000 in
set_option maxHeartbeats 1000000 in
theorem compareFunc_any (l m : List Bnd) (v1 v2 : Value) (w : World) (hl : IsBnds w v1 l) (hm : IsBnds w v2 m) :
    Calls Tryz.prog 52 #[v1, v2, .func (.func 53) #[] #[]] w fun e w' => e = .returned (.int .i64 (bsC l m)) ∧ Gr w w' := by
  obtain ⟨A, c, rfl, h1, h2, hat⟩ := hl
  have hn := len_i64 h1 h2
  have HL := Lib.hid hat
  clear hat h1 h2
  obtain ⟨B, d, rfl, h1, h2, hat⟩ := hm
  have hn2 := len_i64 h1 h2
  have HM := Lib.hid hat
  clear hat h1 h2
  go_enter Tryz.func52, Tryz.ntmps52
  go_wp2_with fail
  go_loopw [13] (fun i wr => ∃ k : Nat, k ≤ l.length ∧ k ≤ m.length ∧ i = .int .i64 k ∧ Hid (bsC (l.drop k) (m.drop k) = bsC l m) ∧ Gr w wr) (fun i _ => l.length - (intOf i).toNat)
  case atStart => exact ⟨0, Nat.zero_le _, Nat.zero_le _, rfl, by exact Lib.hid rfl, Gr.refl _⟩
  case round =>
    obtain ⟨k, hk, hkm, rfl, hi, hb⟩ := hrel
    by_cases hlt : k < l.length
    · obtain ⟨b, o, rfl, c0, c1, c2, c3⟩ := HL.out k l[k] (List.getElem?_eq_getElem hlt)
      replace c0 := cell_stays hb.below c0
      replace c1 := cell_stays hb.below c1
      replace c2 := cell_stays hb.below c2
      replace c3 := cell_stays hb.below c3
      have hget := Lib.hid (List.getElem?_eq_getElem hlt)
      obtain ⟨x, hx⟩ : ∃ x, x = l[k] := ⟨_, rfl⟩
      rw [← hx] at hget c0 c1 c2 c3
      clear hx
      have hk' : (k : Int) < (l.length : Int) := by omega
      by_cases hlm : k < m.length
      · obtain ⟨b2, o2, rfl, d0, d1, d2, d3⟩ := HM.out k m[k] (List.getElem?_eq_getElem hlm)
        replace d0 := cell_stays hb.below d0
        replace d1 := cell_stays hb.below d1
        replace d2 := cell_stays hb.below d2
        replace d3 := cell_stays hb.below d3
        have hget2 := Lib.hid (List.getElem?_eq_getElem hlm)
        obtain ⟨y, hy⟩ : ∃ y, y = m[k] := ⟨_, rfl⟩
        rw [← hy] at hget2 d0 d1 d2 d3
        clear hy
        have hlt2 : b2 < wr.heap.size := World.block_lt_of_cell? wr ⟨b2, _, none⟩ d0
        have hne1 : b2 ≠ wr.heap.size := by omega
        have hne2 : wr.heap.size ≠ b2 := by omega
        have hne3 : b2 ≠ wr.heap.size + 1 := by omega
        have hne4 : wr.heap.size + 1 ≠ b2 := by omega
        have hk2 : ¬ ((m.length : Int) ≤ (k : Int)) := by omega
        have hk3 : (k : Int) < (m.length : Int) := by omega
        obtain ⟨r, hr⟩ : ∃ r, bndC x y = r := ⟨_, rfl⟩
        have HR := Lib.hid hr
        clear hr
        go_wp2_with fail
        refine (bnds_any x y _).mono ?_
        rw [HR.out]
        rintro e w' ⟨rfl, hg⟩
        have hg' : Gr w w' := hb.trans (Gr.trans (by repeat (first | exact Gr.refl _ | assumption | refine Gr.drew ?_ | refine Gr.alloc ?_ _ | refine Gr.set ?_ (by omega) _ | refine Gr.trans ?_ (by assumption))) hg)
        by_cases hr0 : r = 0
        · subst hr0
          go_wp2_with fail
          go_roundw
          case rel =>
            refine ⟨k + 1, by omega, by omega, by go_num, ?_, hg'⟩
            have := hi.out
            rw [bsC_both hget.out hget2.out, HR.out] at this
            exact Lib.hid this
          case measure => simp [intOf]; omega
        · have hr' : (r != 0) = true := by simpa using hr0
          have HR0 := Lib.hid hr0
          clear hr0
          go_wp2_with fail
          go_ret
          have := hi.out
          rw [bsC_both hget.out hget2.out, HR.out, orI, if_neg HR0.out] at this
          rw [← this]
          exact ⟨rfl, hg'⟩
      · have hk2 : (m.length : Int) ≤ (k : Int) := by omega
        go_wp2_with fail
        go_ret
        have := hi.out
        rw [bsC_left hget.out (by omega)] at this
        rw [← this]
        exact ⟨rfl, hb.trans (by repeat (first | exact Gr.refl _ | assumption | refine Gr.drew ?_ | refine Gr.alloc ?_ _ | refine Gr.set ?_ (by omega) _ | refine Gr.trans ?_ (by assumption)))⟩
    · have he := hi.out
      rw [bsC_end (by omega)] at he
      have HE := Lib.hid he
      clear he
      have hkl : l.length = k := by omega
      by_cases hlm : k < m.length
      · have hlm' : (l.length : Int) < (m.length : Int) := by omega
        go_wp2_with fail
        go_ret
        have := HE.out
        rw [if_pos hlm] at this
        rw [← this]
        exact ⟨rfl, hb⟩
      · have hlm' : ¬ ((l.length : Int) < (m.length : Int)) := by omega
        go_wp2_with fail
        go_ret
        have := HE.out
        rw [if_neg hlm] at this
        rw [← this]
        exact ⟨rfl, hb⟩

set_option maxHeartbeats 1000000 in
theorem mcompare_any (l m : List Bnd) (v1 v2 : Value) (w : World) (hl : IsBnds w v1 l) (hm : IsBnds w v2 m) :
    Calls Tryz.prog 16 #[matV v1, matV v2] w fun e w' => e = .returned (.int .i64 (bsC l m)) ∧ Gr w w' := by
  unfold matV
  have HL := Lib.hid hl
  have HM := Lib.hid hm
  obtain ⟨A, c, rfl, -, -, -⟩ := hl
  obtain ⟨B, d, rfl, -, -, -⟩ := hm
  go_enter Tryz.func16, Tryz.ntmps16
  go_wp2_with (go_at_call 52; refine (compareFunc_any l m _ _ _ (HL.out.stays bndAt_stays (Gr.below (by repeat (first | exact Gr.refl _ | assumption | refine Gr.drew ?_ | refine Gr.alloc ?_ _ | refine Gr.set ?_ (by omega) _ | refine Gr.trans ?_ (by assumption))))) (HM.out.stays bndAt_stays (Gr.below (by repeat (first | exact Gr.refl _ | assumption | refine Gr.drew ?_ | refine Gr.alloc ?_ _ | refine Gr.set ?_ (by omega) _ | refine Gr.trans ?_ (by assumption)))))).mono ?_; rintro e w2 ⟨rfl, hg2⟩)
  go_ret
  exact ⟨rfl, (by repeat (first | exact Gr.refl _ | assumption | refine Gr.drew ?_ | refine Gr.alloc ?_ _ | refine Gr.set ?_ (by omega) _ | refine Gr.trans ?_ (by assumption)))⟩

theorem orI_c (a b : Int) : orI a b = if a = 0 then b else a := rfl
end Go.Proofs.YtclpglgigpjfoaaGreatDoor
namespace Go.Proofs.YtclpglgigpjfoaaGreatDoor
open Go.RowKit

theorem ret_i {a b : Int} (h : a = b) : Ending.returned (.int .i64 a) = .returned (.int .i64 b) := by rw [h]
set_option maxHeartbeats 1000000 in
theorem rrefs_bnd (a b : Bnd) (w : World) :
    Calls Tryz.prog 36 #[.agg #[.int .i64 a.t, .int .i64 a.s, .int .i64 a.n], .agg #[.int .i64 b.t, .int .i64 b.s, .int .i64 b.n]] w fun e w' => e = .returned (.int .i64 (refsC a b)) ∧ Gr w w' := by
  obtain ⟨v1, t1, s1, n1⟩ := a
  obtain ⟨v2, t2, s2, n2⟩ := b
  simp only [refsC]
  rcases Int.lt_trichotomy t1 t2 with h | h | h
  · have hn : (t1 != t2) = true := by simp; omega
    have hr : orI (orI (cmpI t1 t2) (cmpI s1 s2)) (cmpI n1 n2) = -1 := by simp [orI, cmpI, h]
    rw [hr]
    clear hr
    go_enter Tryz.func36, Tryz.ntmps36
    go_wp2
    go_ret
    exact ⟨rfl, (by repeat (first | exact Gr.refl _ | assumption | refine Gr.drew ?_ | refine Gr.alloc ?_ _ | refine Gr.set ?_ (by omega) _ | refine Gr.trans ?_ (by assumption)))⟩
  · subst h
    rcases Int.lt_trichotomy s1 s2 with h | h | h
    · have hn : (s1 != s2) = true := by simp; omega
      have hr : orI (orI (cmpI t1 t1) (cmpI s1 s2)) (cmpI n1 n2) = -1 := by simp [orI, cmpI, h]
      rw [hr]
      clear hr
      go_enter Tryz.func36, Tryz.ntmps36
      go_wp2
      go_ret
      exact ⟨rfl, (by repeat (first | exact Gr.refl _ | assumption | refine Gr.drew ?_ | refine Gr.alloc ?_ _ | refine Gr.set ?_ (by omega) _ | refine Gr.trans ?_ (by assumption)))⟩
    · subst h
      have hr : orI (orI (cmpI t1 t1) (cmpI s1 s1)) (cmpI n1 n2) = cmpI n1 n2 := by simp [orI, cmpI]
      rw [hr]
      clear hr
      rcases Int.lt_trichotomy n1 n2 with h | h | h
      · have hr : cmpI n1 n2 = -1 := by simp [cmpI, h]
        rw [hr]
        clear hr
        go_enter Tryz.func36, Tryz.ntmps36
        go_wp2
        go_ret
        exact ⟨rfl, (by repeat (first | exact Gr.refl _ | assumption | refine Gr.drew ?_ | refine Gr.alloc ?_ _ | refine Gr.set ?_ (by omega) _ | refine Gr.trans ?_ (by assumption)))⟩
      · subst h
        have hr : cmpI n1 n1 = 0 := by simp [cmpI]
        rw [hr]
        clear hr
        go_enter Tryz.func36, Tryz.ntmps36
        go_wp2
        go_ret
        exact ⟨rfl, (by repeat (first | exact Gr.refl _ | assumption | refine Gr.drew ?_ | refine Gr.alloc ?_ _ | refine Gr.set ?_ (by omega) _ | refine Gr.trans ?_ (by assumption)))⟩
      · have hr : cmpI n1 n2 = 1 := by unfold cmpI; rw [if_neg (by omega), if_pos h]
        rw [hr]
        clear hr
        have h' : ¬ n1 < n2 := by omega
        go_enter Tryz.func36, Tryz.ntmps36
        go_wp2
        go_ret
        exact ⟨rfl, (by repeat (first | exact Gr.refl _ | assumption | refine Gr.drew ?_ | refine Gr.alloc ?_ _ | refine Gr.set ?_ (by omega) _ | refine Gr.trans ?_ (by assumption)))⟩
    · have hn : (s1 != s2) = true := by simp; omega
      have hr : orI (orI (cmpI t1 t1) (cmpI s1 s2)) (cmpI n1 n2) = 1 := by
        have h1 : cmpI t1 t1 = 0 := by simp [cmpI]
        have h2 : cmpI s1 s2 = 1 := by unfold cmpI; rw [if_neg (by omega), if_pos h]
        rw [h1, h2]; rfl
      rw [hr]
      clear hr
      have h' : ¬ s1 < s2 := by omega
      go_enter Tryz.func36, Tryz.ntmps36
      go_wp2
      go_ret
      exact ⟨rfl, (by repeat (first | exact Gr.refl _ | assumption | refine Gr.drew ?_ | refine Gr.alloc ?_ _ | refine Gr.set ?_ (by omega) _ | refine Gr.trans ?_ (by assumption)))⟩
  · have hn : (t1 != t2) = true := by simp; omega
    have hr : orI (orI (cmpI t1 t2) (cmpI s1 s2)) (cmpI n1 n2) = 1 := by
      have h1 : cmpI t1 t2 = 1 := by unfold cmpI; rw [if_neg (by omega), if_pos h]
      rw [h1]; rfl
    rw [hr]
    clear hr
    have h' : ¬ t1 < t2 := by omega
    go_enter Tryz.func36, Tryz.ntmps36
    go_wp2
    go_ret
    exact ⟨rfl, (by repeat (first | exact Gr.refl _ | assumption | refine Gr.drew ?_ | refine Gr.alloc ?_ _ | refine Gr.set ?_ (by omega) _ | refine Gr.trans ?_ (by assumption)))⟩

set_option maxHeartbeats 1000000 in
theorem rbnds_any (a b : Bnd) (w : World) :
    Calls Tryz.prog 40 #[bndV a, bndV b] w fun e w' => e = .returned (.int .i64 (bndC a b)) ∧ Gr w w' := by
  unfold bndV bndC
  obtain ⟨r, hr⟩ : ∃ r, refsC a b = r := ⟨_, rfl⟩
  have HR := Lib.hid hr
  rw [hr, orI_c]
  clear hr
  by_cases h0 : r = 0
  · subst h0
    rw [if_pos rfl]
    rcases Int.lt_trichotomy a.v b.v with h | h | h
    · have hr : cmpI a.v b.v = -1 := by simp [cmpI, h]
      rw [hr]
      clear hr
      go_enter Tryz.func40, Tryz.ntmps40
      go_wp2_with (go_at_call 36; refine (rrefs_bnd a b _).mono ?_; rw [HR.out]; rintro e w3 ⟨rfl, hg3⟩; obtain ⟨hz, hy, -⟩ := two_new hg3.below)
      go_ret
      exact ⟨rfl, (by repeat (first | exact Gr.refl _ | assumption | refine Gr.drew ?_ | refine Gr.alloc ?_ _ | refine Gr.set ?_ (by omega) _ | refine Gr.trans ?_ (by assumption)))⟩
    · have hr : cmpI a.v b.v = 0 := by simp [cmpI, h]
      rw [hr]
      clear hr
      go_enter Tryz.func40, Tryz.ntmps40
      go_wp2_with (go_at_call 36; refine (rrefs_bnd a b _).mono ?_; rw [HR.out]; rintro e w3 ⟨rfl, hg3⟩; obtain ⟨hz, hy, -⟩ := two_new hg3.below)
      go_ret
      exact ⟨rfl, (by repeat (first | exact Gr.refl _ | assumption | refine Gr.drew ?_ | refine Gr.alloc ?_ _ | refine Gr.set ?_ (by omega) _ | refine Gr.trans ?_ (by assumption)))⟩
    · have hr : cmpI a.v b.v = 1 := by unfold cmpI; rw [if_neg (by omega), if_pos h]
      rw [hr]
      clear hr
      have h' : ¬ a.v < b.v := by omega
      go_enter Tryz.func40, Tryz.ntmps40
      go_wp2_with (go_at_call 36; refine (rrefs_bnd a b _).mono ?_; rw [HR.out]; rintro e w3 ⟨rfl, hg3⟩; obtain ⟨hz, hy, -⟩ := two_new hg3.below)
      go_ret
      exact ⟨rfl, (by repeat (first | exact Gr.refl _ | assumption | refine Gr.drew ?_ | refine Gr.alloc ?_ _ | refine Gr.set ?_ (by omega) _ | refine Gr.trans ?_ (by assumption)))⟩
  · rw [if_neg h0]
    have h0' : (r != 0) = true := by simpa using h0
    go_enter Tryz.func40, Tryz.ntmps40
    go_wp2_with (go_at_call 36; refine (rrefs_bnd a b _).mono ?_; rw [HR.out]; rintro e w3 ⟨rfl, hg3⟩)
    go_ret
    exact ⟨rfl, (by repeat (first | exact Gr.refl _ | assumption | refine Gr.drew ?_ | refine Gr.alloc ?_ _ | refine Gr.set ?_ (by omega) _ | refine Gr.trans ?_ (by assumption)))⟩

set_option maxRecDepth 100000 in
set_option maxHeartbeats 1000000 in
theorem rcompare_any (l m : List Bnd) (v1 v2 : Value) (w : World) (hl : IsBnds w v1 l) (hm : IsBnds w v2 m) :
    Calls Tryz.prog 17 #[matV v1, matV v2] w fun e w' => e = .returned (.int .i64 (bsC l m)) ∧ Gr w w' := by
  unfold matV
  obtain ⟨A, c, rfl, h1, h2, hat⟩ := hl
  have hn := len_i64 h1 h2
  have HL := Lib.hid hat
  clear hat h1 h2
  obtain ⟨B, d, rfl, h1, h2, hat⟩ := hm
  have hn2 := len_i64 h1 h2
  have HM := Lib.hid hat
  clear hat h1 h2
  go_enter Tryz.func17, Tryz.ntmps17
  go_wp2_with fail
  refine wp_gen fun w0 e0 => ?_
  have hw0 : Gr w w0 := by rw [e0]; exact (by repeat (first | exact Gr.refl _ | assumption | refine Gr.drew ?_ | refine Gr.alloc ?_ _ | refine Gr.set ?_ (by omega) _ | refine Gr.trans ?_ (by assumption)))
  have x0 : w0.cell? ⟨w.heap.size, 0, none⟩ = some (.slice A l.length c) := by rw [e0]; go_simp
  have y0 : w0.cell? ⟨w.heap.size + 1, 0, none⟩ = some (.slice B m.length d) := by rw [e0]; go_simp
  have HX := Lib.hid x0
  have HY := Lib.hid y0
  clear e0 x0 y0
  go_loopw [5] (fun i wr => ∃ k : Nat, k ≤ l.length ∧ k ≤ m.length ∧ i = .int .i64 k ∧ Hid (bsC (l.drop k) (m.drop k) = bsC l m) ∧ Gr w0 wr) (fun i _ => l.length - (intOf i).toNat)
  case atStart => exact ⟨0, Nat.zero_le _, Nat.zero_le _, rfl, by exact Lib.hid rfl, Gr.refl _⟩
  case round =>
    obtain ⟨k, hk, hkm, rfl, hi, hb⟩ := hrel
    have x0 := cell_stays hb.below HX.out
    have y0 := cell_stays hb.below HY.out
    by_cases hlt : k < l.length
    · have hk' : (k : Int) < (l.length : Int) := by omega
      by_cases hlm : k < m.length
      · obtain ⟨b, o, rfl, c0, c1, c2, c3⟩ := HL.out k l[k] (List.getElem?_eq_getElem hlt)
        replace c0 := cell_stays (hw0.trans hb).below c0
        replace c1 := cell_stays (hw0.trans hb).below c1
        replace c2 := cell_stays (hw0.trans hb).below c2
        replace c3 := cell_stays (hw0.trans hb).below c3
        have hget := Lib.hid (List.getElem?_eq_getElem hlt)
        obtain ⟨x, hx⟩ : ∃ x, x = l[k] := ⟨_, rfl⟩
        rw [← hx] at hget c0 c1 c2 c3
        clear hx
        obtain ⟨b2, o2, rfl, d0, d1, d2, d3⟩ := HM.out k m[k] (List.getElem?_eq_getElem hlm)
        replace d0 := cell_stays (hw0.trans hb).below d0
        replace d1 := cell_stays (hw0.trans hb).below d1
        replace d2 := cell_stays (hw0.trans hb).below d2
        replace d3 := cell_stays (hw0.trans hb).below d3
        have hget2 := Lib.hid (List.getElem?_eq_getElem hlm)
        obtain ⟨y, hy⟩ : ∃ y, y = m[k] := ⟨_, rfl⟩
        rw [← hy] at hget2 d0 d1 d2 d3
        clear hy
        have hk3 : (k : Int) < (m.length : Int) := by omega
        obtain ⟨r, hr⟩ : ∃ r, bndC x y = r := ⟨_, rfl⟩
        have HR := Lib.hid hr
        clear hr
        go_wp2_with fail
        refine wp_gen fun w2 e2 => ?_
        have hww : wr = w2 := e2.symm
        subst hww
        clear e2
        have hg2 : Gr wr wr := Gr.refl _
        have hFF : Hid ((fun W => W.cell? ⟨w.heap.size, 0, none⟩ = some (.slice (some ⟨b, o, none⟩) l.length c) ∧ W.cell? ⟨w.heap.size + 1, 0, none⟩ = some (.slice (some ⟨b2, o2, none⟩) m.length d) ∧ W.cell? ⟨b, o + k * 4, none⟩ = some (.int .i64 x.v) ∧ W.cell? ⟨b, o + k * 4 + 1, none⟩ = some (.int .i64 x.t) ∧ W.cell? ⟨b, o + k * 4 + 2, none⟩ = some (.int .i64 x.s) ∧ W.cell? ⟨b, o + k * 4 + 3, none⟩ = some (.int .i64 x.n) ∧ W.cell? ⟨b2, o2 + k * 4, none⟩ = some (.int .i64 y.v) ∧ W.cell? ⟨b2, o2 + k * 4 + 1, none⟩ = some (.int .i64 y.t) ∧ W.cell? ⟨b2, o2 + k * 4 + 2, none⟩ = some (.int .i64 y.s) ∧ W.cell? ⟨b2, o2 + k * 4 + 3, none⟩ = some (.int .i64 y.n)) wr) := Lib.hid (by (first | exact ⟨‹_›, ‹_›⟩ | (go_simp; done) | (simp [*]; done))); have hGG : Hid (Grows (fun W => W.cell? ⟨w.heap.size, 0, none⟩ = some (.slice (some ⟨b, o, none⟩) l.length c) ∧ W.cell? ⟨w.heap.size + 1, 0, none⟩ = some (.slice (some ⟨b2, o2, none⟩) m.length d) ∧ W.cell? ⟨b, o + k * 4, none⟩ = some (.int .i64 x.v) ∧ W.cell? ⟨b, o + k * 4 + 1, none⟩ = some (.int .i64 x.t) ∧ W.cell? ⟨b, o + k * 4 + 2, none⟩ = some (.int .i64 x.s) ∧ W.cell? ⟨b, o + k * 4 + 3, none⟩ = some (.int .i64 x.n) ∧ W.cell? ⟨b2, o2 + k * 4, none⟩ = some (.int .i64 y.v) ∧ W.cell? ⟨b2, o2 + k * 4 + 1, none⟩ = some (.int .i64 y.t) ∧ W.cell? ⟨b2, o2 + k * 4 + 2, none⟩ = some (.int .i64 y.s) ∧ W.cell? ⟨b2, o2 + k * 4 + 3, none⟩ = some (.int .i64 y.n))) := (by repeat (first | exact grows_cell _ _ _ | exact grows_true | refine grows_and ?_ ?_)); have hFF' := hFF.out; go_region_held3 (fun W => W.cell? ⟨w.heap.size, 0, none⟩ = some (.slice (some ⟨b, o, none⟩) l.length c) ∧ W.cell? ⟨w.heap.size + 1, 0, none⟩ = some (.slice (some ⟨b2, o2, none⟩) m.length d) ∧ W.cell? ⟨b, o + k * 4, none⟩ = some (.int .i64 x.v) ∧ W.cell? ⟨b, o + k * 4 + 1, none⟩ = some (.int .i64 x.t) ∧ W.cell? ⟨b, o + k * 4 + 2, none⟩ = some (.int .i64 x.s) ∧ W.cell? ⟨b, o + k * 4 + 3, none⟩ = some (.int .i64 x.n) ∧ W.cell? ⟨b2, o2 + k * 4, none⟩ = some (.int .i64 y.v) ∧ W.cell? ⟨b2, o2 + k * 4 + 1, none⟩ = some (.int .i64 y.t) ∧ W.cell? ⟨b2, o2 + k * 4 + 2, none⟩ = some (.int .i64 y.s) ∧ W.cell? ⟨b2, o2 + k * 4 + 3, none⟩ = some (.int .i64 y.n)) (with_reducible exact hGG.out.to (Gr.below (by repeat (first | with_reducible exact Gr.refl _ | assumption | with_reducible refine Gr.drew ?_ | with_reducible refine Gr.alloc ?_ _ | with_reducible refine Gr.trans ?_ (by assumption)))) hFF.out) (first | (go_at_call 40; refine (rbnds_any x y _).mono ?_; rw [HR.out]; rintro e w3 ⟨rfl, hg3⟩))
        have hg' : Gr w0 w3 := hb.trans (by repeat (first | exact Gr.refl _ | assumption | refine Gr.drew ?_ | refine Gr.alloc ?_ _ | refine Gr.set ?_ (by omega) _ | refine Gr.trans ?_ (by assumption)))
        clear hg2
        by_cases hr0 : r = 0
        · subst hr0
          go_wp2_with fail
          go_roundw
          case rel =>
            refine ⟨k + 1, by omega, by omega, by go_num, ?_, hg'⟩
            have := hi.out
            rw [bsC_both hget.out hget2.out, HR.out] at this
            exact Lib.hid this
          case measure => simp [intOf]; omega
        · have hr' : (r != 0) = true := by simpa using hr0
          have HR0 := Lib.hid hr0
          clear hr0
          go_wp2_with fail
          go_ret
          have := hi.out
          rw [bsC_both hget.out hget2.out, HR.out, orI, if_neg HR0.out] at this
          rw [← this]
          exact ⟨rfl, hw0.trans hg'⟩
      · have hk2 : ¬ ((k : Int) < (m.length : Int)) := by omega
        have hk3 : ¬ ((l.length : Int) < (m.length : Int)) := by omega
        have hk4 : (m.length : Int) < (l.length : Int) := by omega
        go_wp2_with fail
        go_ret
        have := hi.out
        rw [bsC_left (List.getElem?_eq_getElem hlt) (by omega)] at this
        rw [← this]
        exact ⟨rfl, hw0.trans hb⟩
    · have he := hi.out
      rw [bsC_end (by omega)] at he
      have HE := Lib.hid he
      clear he
      have hkl : l.length = k := by omega
      have hk' : ¬ ((k : Int) < (l.length : Int)) := by omega
      have HK := Lib.hid hkl
      clear hkl
      by_cases hlm : k < m.length
      · have hlm' : (l.length : Int) < (m.length : Int) := by have := HK.out; omega
        go_wp2_with fail
        go_ret
        have := HE.out
        rw [if_pos hlm] at this
        rw [← this]
        exact ⟨rfl, hw0.trans hb⟩
      · have hlm' : ¬ ((l.length : Int) < (m.length : Int)) := by have := HK.out; omega
        have hlm2 : ¬ ((m.length : Int) < (l.length : Int)) := by have := HK.out; omega
        go_wp2_with fail
        go_ret
        have := HE.out
        rw [if_neg hlm] at this
        rw [← this]
        exact ⟨rfl, hw0.trans hb⟩
end Go.Proofs.YtclpglgigpjfoaaGreatDoor
namespace Go.Proofs.YtclpglgigpjfoaaGreatDoor
open Go.RowKit

/-- the first error of a list whose elements are looked at one after another, each with the one before it -/
def scanE {α : Type} (f : Option α → α → Int) : Option α → List α → Int
  | _, [] => 0
  | p, x :: l => if f p x = 0 then scanE f (some x) l else f p x
def prevL {α : Type} (l : List α) : Nat → Option α
  | 0 => none
  | k + 1 => l[k]?
theorem prevL_pos {α : Type} {l : List α} {k : Nat} {x : α} (h0 : k ≠ 0) (h : l[k - 1]? = some x) : prevL l k = some x := by
  cases k with
  | zero => omega
  | succ k => exact h
section
variable {α : Type} {f : Option α → α → Int} {l : List α} {k : Nat} {x : α} {E e : Int}
theorem scan_stop (hx : l[k]? = some x) (h : scanE f (prevL l k) (l.drop k) = E) (he : f (prevL l k) x = e) (h0 : e ≠ 0) : e = E := by
  obtain ⟨h1, rfl⟩ := List.getElem?_eq_some_iff.1 hx
  rw [List.drop_eq_getElem_cons h1, scanE, if_neg (by rw [he]; exact h0), he] at h
  exact h
theorem scan_go (hx : l[k]? = some x) (h : scanE f (prevL l k) (l.drop k) = E) (he : f (prevL l k) x = 0) : scanE f (prevL l (k + 1)) (l.drop (k + 1)) = E := by
  have hx' := hx
  obtain ⟨h1, rfl⟩ := List.getElem?_eq_some_iff.1 hx
  rw [List.drop_eq_getElem_cons h1, scanE, if_pos he] at h
  rw [prevL, hx']
  exact h
theorem scan_end (hk : l.length ≤ k) (h : scanE f (prevL l k) (l.drop k) = E) : 0 = E := by
  rw [List.drop_eq_nil_of_le hk, scanE] at h; exact h
end

def inI (n m : Int) : Bool := decide (0 ≤ n) && decide (n ≤ m)
def plB (b : Bnd) : Bool := inI b.t 1099511627776 && inI b.s 7 && inI b.n 1099511627776
def bndOk (b : Bnd) : Bool := inI b.v 15 && plB b
def behind (p : Option Bnd) (b : Bnd) : Bool := match p with | none => true | some a => decide (refsC a b < 0)
def bndE (p : Option Bnd) (b : Bnd) : Int := if bndOk b = false then 2 else if behind p b = true then 0 else 14
def matErr (l : List Bnd) : Int := if l.length = 0 then 15 else if 4096 < l.length then 5 else scanE bndE none l
theorem bndE_2 {p : Option Bnd} {b : Bnd} (h : bndOk b = false) : bndE p b = 2 := if_pos h
theorem bndE_14 {p a : Bnd} {l : List Bnd} {k : Nat} (h : bndOk a = true) (h0 : k ≠ 0) (hp : l[k - 1]? = some p) (hr : 0 ≤ refsC p a) : bndE (prevL l k) a = 14 := by
  unfold bndE; rw [if_neg (by simp [h]), prevL_pos h0 hp, if_neg (by simp [behind]; omega)]
theorem bndE_0 {p a : Bnd} {l : List Bnd} {k : Nat} (h : bndOk a = true) (h0 : k ≠ 0) (hp : l[k - 1]? = some p) (hr : refsC p a < 0) : bndE (prevL l k) a = 0 := by
  unfold bndE; rw [if_neg (by simp [h]), prevL_pos h0 hp, if_pos (by simp [behind]; omega)]
theorem bndE_first {a : Bnd} {l : List Bnd} {k : Nat} (h : bndOk a = true) (h0 : k = 0) : bndE (prevL l k) a = 0 := by
  subst h0; unfold bndE; rw [if_neg (by simp [h])]; rfl

theorem within_any (n m : Int) (w : World) : Calls Tryz.prog 49 #[.int .i64 n, .int .i64 m] w fun e w' => e = .returned (.bool (inI n m)) ∧ w = w' := by
  unfold inI
  by_cases h1 : 0 ≤ n
  · by_cases h2 : n ≤ m
    · go_enter Tryz.func49, Tryz.ntmps49
      go_wp2
      go_ret
      exact ⟨by simp [h1, h2], rfl⟩
    · go_enter Tryz.func49, Tryz.ntmps49
      go_wp2
      go_ret
      exact ⟨by simp [h2], rfl⟩
  · go_enter Tryz.func49, Tryz.ntmps49
    go_wp2
    go_ret
    exact ⟨by simp; omega, rfl⟩

set_option maxHeartbeats 1000000 in
theorem placedE_any (t s n : Int) (w : World) (u v : Value) (hu : u = .int .i64 0) (hv : v = .slice none 0 0) : Calls Tryz.prog 82 #[.agg #[.int .i64 s, .int .i64 n, u, .int .i64 t, v]] w fun e w' => e = .returned (.bool (inI t 1099511627776 && inI s 7 && inI n 1099511627776)) ∧ Gr w w' := by
  subst hu hv
  unfold inI
  by_cases h1 : 0 ≤ t
  · by_cases h2 : t ≤ 1099511627776
    · by_cases h3 : 0 ≤ s
      · by_cases h4 : s < 8
        · have h4' : s ≤ 7 := by omega
          by_cases h5 : 0 ≤ n
          · by_cases h6 : n ≤ 1099511627776 <;>
            · go_enter Tryz.func82, Tryz.ntmps82
              go_wp2
              go_ret
              exact ⟨by simp [*], (by repeat (first | exact Gr.refl _ | assumption | refine Gr.drew ?_ | refine Gr.alloc ?_ _ | refine Gr.set ?_ (by omega) _ | refine Gr.trans ?_ (by assumption)))⟩
          · go_enter Tryz.func82, Tryz.ntmps82
            go_wp2
            go_ret
            exact ⟨by simp [*] <;> omega, (by repeat (first | exact Gr.refl _ | assumption | refine Gr.drew ?_ | refine Gr.alloc ?_ _ | refine Gr.set ?_ (by omega) _ | refine Gr.trans ?_ (by assumption)))⟩
        · have h4' : ¬ s ≤ 7 := by omega
          go_enter Tryz.func82, Tryz.ntmps82
          go_wp2
          go_ret
          exact ⟨by simp [*] <;> omega, (by repeat (first | exact Gr.refl _ | assumption | refine Gr.drew ?_ | refine Gr.alloc ?_ _ | refine Gr.set ?_ (by omega) _ | refine Gr.trans ?_ (by assumption)))⟩
      · go_enter Tryz.func82, Tryz.ntmps82
        go_wp2
        go_ret
        exact ⟨by simp [*] <;> omega, (by repeat (first | exact Gr.refl _ | assumption | refine Gr.drew ?_ | refine Gr.alloc ?_ _ | refine Gr.set ?_ (by omega) _ | refine Gr.trans ?_ (by assumption)))⟩
    · go_enter Tryz.func82, Tryz.ntmps82
      go_wp2
      go_ret
      exact ⟨by simp [*] <;> omega, (by repeat (first | exact Gr.refl _ | assumption | refine Gr.drew ?_ | refine Gr.alloc ?_ _ | refine Gr.set ?_ (by omega) _ | refine Gr.trans ?_ (by assumption)))⟩
  · go_enter Tryz.func82, Tryz.ntmps82
    go_wp2
    go_ret
    exact ⟨by simp [*] <;> omega, (by repeat (first | exact Gr.refl _ | assumption | refine Gr.drew ?_ | refine Gr.alloc ?_ _ | refine Gr.set ?_ (by omega) _ | refine Gr.trans ?_ (by assumption)))⟩

set_option maxHeartbeats 1000000 in
theorem placed_any (a : Bnd) (w : World) : Calls Tryz.prog 51 #[.agg #[.int .i64 a.t, .int .i64 a.s, .int .i64 a.n]] w fun e w' => e = .returned (.bool (plB a)) ∧ Gr w w' := by
  obtain ⟨r, hr⟩ : ∃ r, plB a = r := ⟨_, rfl⟩
  have HR := Lib.hid hr
  rw [hr]
  clear hr
  go_enter Tryz.func51, Tryz.ntmps51
  go_wp2_with (go_at_call 82; refine (placedE_any a.t a.s a.n _ _ _ rfl rfl).mono ?_; change ∀ (e : Ending) (w' : World), e = .returned (.bool (plB a)) ∧ _ → _; rw [HR.out]; rintro e w3 ⟨rfl, hg3⟩)
  go_ret
  exact ⟨rfl, (by repeat (first | exact Gr.refl _ | assumption | refine Gr.drew ?_ | refine Gr.alloc ?_ _ | refine Gr.set ?_ (by omega) _ | refine Gr.trans ?_ (by assumption)))⟩
end Go.Proofs.YtclpglgigpjfoaaGreatDoor
namespace Go.Proofs.YtclpglgigpjfoaaGreatDoor
open Go.RowKit

set_option maxRecDepth 100000 in
set_option maxHeartbeats 2000000 in
theorem mcheck_any (l : List Bnd) (v : Value) (w : World) (hl : IsBnds w v l) :
    Calls Tryz.prog 14 #[matV v] w fun e w' => e = .returned (.int .i64 (matErr l)) ∧ Below w.heap.size w w' := by
  unfold matV matErr
  obtain ⟨A, c, rfl, h1, h2, hat⟩ := hl
  have hn := len_i64 h1 h2
  have HL := Lib.hid hat
  clear hat h1 h2
  by_cases hz : l.length = 0
  · rw [if_pos hz]
    obtain rfl : l = [] := List.eq_nil_of_length_eq_zero hz
    go_enter Tryz.func14, Tryz.ntmps14
    go_wp2_with fail
    go_ret
    exact ⟨rfl, (by repeat (first | exact Below.refl _ _ | assumption | refine Below.drew ?_ | refine bel_al ?_ _ | refine bel_set ?_ (by omega) _ | refine bel_tr ?_ (by assumption)))⟩
  rw [if_neg hz]
  have hz' : ((l.length : Int) == 0) = false := by rw [beq_eq_false_iff_ne]; omega
  have hz1 : l ≠ [] := by intro h; rw [h] at hz; exact hz rfl
  have HZ := Lib.hid hz
  clear hz
  by_cases hm : 4096 < l.length
  · rw [if_pos hm]
    have hm' : (4096 : Int) < (l.length : Int) := by omega
    go_enter Tryz.func14, Tryz.ntmps14
    go_wp2_with fail
    go_ret
    exact ⟨rfl, (by repeat (first | exact Below.refl _ _ | assumption | refine Below.drew ?_ | refine bel_al ?_ _ | refine bel_set ?_ (by omega) _ | refine bel_tr ?_ (by assumption)))⟩
  rw [if_neg hm]
  have hm' : ¬ (4096 : Int) < (l.length : Int) := by omega
  clear hm
  go_enter Tryz.func14, Tryz.ntmps14
  go_wp2_with fail
  refine wp_gen fun w0 e0 => ?_
  have hw0 : Below w.heap.size w w0 := by rw [e0]; exact (by repeat (first | exact Below.refl _ _ | assumption | refine Below.drew ?_ | refine bel_al ?_ _ | refine bel_set ?_ (by omega) _ | refine bel_tr ?_ (by assumption)))
  have x0 : w0.cell? ⟨w.heap.size, 0, none⟩ = some (.slice A l.length c) := by rw [e0]; go_simp
  have hs0 : w.heap.size < w0.heap.size := by rw [e0]; simp
  have HX := Lib.hid x0
  have HW0 := Lib.hid hw0
  clear e0 x0 hw0
  go_loopw [18] (fun i wr => ∃ k : Nat, k ≤ l.length ∧ i = .int .i64 k ∧ Hid (scanE bndE (prevL l k) (l.drop k) = scanE bndE none l) ∧ Below w0.heap.size w0 wr) (fun i _ => l.length - (intOf i).toNat)
  case atStart => exact ⟨0, Nat.zero_le _, rfl, by exact Lib.hid rfl, Below.refl _ _⟩
  case round =>
    obtain ⟨k, hk, rfl, hi, hb⟩ := hrel
    have x0 := cell_stays hb HX.out
    have hww := Lib.hid (bel_tr HW0.out hb)
    have hsz : w0.heap.size ≤ wr.heap.size := hb.size
    have hne : w.heap.size ≠ wr.heap.size := by omega
    have hne' : wr.heap.size ≠ w.heap.size := by omega
    by_cases hlt : k < l.length
    · have hk' : (k : Int) < (l.length : Int) := by omega
      obtain ⟨b, o, rfl, c0, c1, c2, c3⟩ := HL.out k l[k] (List.getElem?_eq_getElem hlt)
      replace c0 := cell_stays hww.out c0
      replace c1 := cell_stays hww.out c1
      replace c2 := cell_stays hww.out c2
      replace c3 := cell_stays hww.out c3
      have hbl : b < wr.heap.size := World.block_lt_of_cell? wr ⟨b, _, none⟩ c0
      have hnb : b ≠ wr.heap.size := by omega
      have hnb' : wr.heap.size ≠ b := by omega
      have hget := Lib.hid (List.getElem?_eq_getElem hlt)
      obtain ⟨x, hx⟩ : ∃ x, x = l[k] := ⟨_, rfl⟩
      rw [← hx] at hget c0 c1 c2 c3
      clear hx
      by_cases h1 : inI x.v 15 = false
      · have hbad : Hid (bndOk x = false) := Lib.hid (by unfold bndOk plB; rw [h1]; rfl)
        go_wp2_with (go_at_call 49; refine (within_any _ _ _).mono ?_; rintro e w' ⟨rfl, rfl⟩)
        go_ret
        exact ⟨ret_i (scan_stop hget.out hi.out (bndE_2 hbad.out) (by decide)), bel_tr HW0.out (by repeat (first | exact Below.refl _ _ | assumption | refine Below.drew ?_ | refine bel_al ?_ _ | refine bel_set ?_ (by omega) _ | refine bel_tr ?_ (by assumption)))⟩
      rw [Bool.not_eq_false] at h1
      by_cases h2 : inI x.t 1099511627776 = false
      · have hbad : Hid (bndOk x = false) := Lib.hid (by unfold bndOk plB; rw [h1, h2]; rfl)
        go_wp2_with (go_at_call 49; refine (within_any _ _ _).mono ?_; rintro e w' ⟨rfl, rfl⟩)
        go_ret
        exact ⟨ret_i (scan_stop hget.out hi.out (bndE_2 hbad.out) (by decide)), bel_tr HW0.out (by repeat (first | exact Below.refl _ _ | assumption | refine Below.drew ?_ | refine bel_al ?_ _ | refine bel_set ?_ (by omega) _ | refine bel_tr ?_ (by assumption)))⟩
      rw [Bool.not_eq_false] at h2
      by_cases h3 : inI x.s 7 = false
      · have hbad : Hid (bndOk x = false) := Lib.hid (by unfold bndOk plB; rw [h1, h2, h3]; rfl)
        go_wp2_with (go_at_call 49; refine (within_any _ _ _).mono ?_; rintro e w' ⟨rfl, rfl⟩)
        go_ret
        exact ⟨ret_i (scan_stop hget.out hi.out (bndE_2 hbad.out) (by decide)), bel_tr HW0.out (by repeat (first | exact Below.refl _ _ | assumption | refine Below.drew ?_ | refine bel_al ?_ _ | refine bel_set ?_ (by omega) _ | refine bel_tr ?_ (by assumption)))⟩
      rw [Bool.not_eq_false] at h3
      by_cases h4 : inI x.n 1099511627776 = false
      · have hbad : Hid (bndOk x = false) := Lib.hid (by unfold bndOk plB; rw [h1, h2, h3, h4]; rfl)
        go_wp2_with (go_at_call 49; refine (within_any _ _ _).mono ?_; rintro e w' ⟨rfl, rfl⟩)
        go_ret
        exact ⟨ret_i (scan_stop hget.out hi.out (bndE_2 hbad.out) (by decide)), bel_tr HW0.out (by repeat (first | exact Below.refl _ _ | assumption | refine Below.drew ?_ | refine bel_al ?_ _ | refine bel_set ?_ (by omega) _ | refine bel_tr ?_ (by assumption)))⟩
      rw [Bool.not_eq_false] at h4
      have hok : Hid (bndOk x = true) := Lib.hid (by unfold bndOk plB; rw [h1, h2, h3, h4]; rfl)
      by_cases hk0 : k = 0
      · have HK := Lib.hid hk0
        have d1 : decide (0 < k) = false := by simp [hk0]
        have d2 : decide ((0 : Int) < (k : Int)) = false := by simp [hk0]
        clear hk0
        go_wp2_with (go_at_call 49; refine (within_any _ _ _).mono ?_; rintro e w' ⟨rfl, rfl⟩)
        refine wp_region_F (fun W => W.cell? ⟨wr.heap.size, 0, none⟩ = some (.int .i64 x.v) ∧ W.cell? ⟨wr.heap.size, 1, none⟩ = some (.int .i64 x.t)) (by repeat (first | exact grows_cell _ _ _ | exact grows_true | refine grows_and ?_ ?_)) (by kernel_rfl) (by kernel_rfl) ?hF ?_; (case hF => (first | exact ⟨‹_›, ‹_›⟩ | (go_simp; done) | (simp [*]; done) | (repeat' (first | (refine And.intro ?_ ?_) | (go_simp; done) | exact cell_stays (bel_al (Below.refl _ _) _) (by assumption) | assumption)))); intro hne hxx; have hG : Hid (Grows (fun W => W.cell? ⟨wr.heap.size, 0, none⟩ = some (.int .i64 x.v) ∧ W.cell? ⟨wr.heap.size, 1, none⟩ = some (.int .i64 x.t))) := (by repeat (first | exact grows_cell _ _ _ | exact grows_true | refine grows_and ?_ ?_)); (repeat (go_big_quiet_step (fail))); clear hG hxx hne; refine wpQuiet_nil ?_; rintro _ ⟨⟨w', hb', hF'⟩, rfl⟩
        go_wp2_with fail
        go_roundw
        case rel => exact ⟨k + 1, by omega, by go_num, Lib.hid (scan_go hget.out hi.out (bndE_first hok.out HK.out)), (by repeat (first | exact Below.refl _ _ | assumption | refine Below.drew ?_ | refine bel_al ?_ _ | refine bel_set ?_ (by omega) _ | refine bel_tr ?_ (by assumption)))⟩
        case measure => simp [intOf]; omega
      · have hk1 : (0 : Int) ≤ (k : Int) - 1 := by omega
        have hk2 : (k : Int) - 1 < (l.length : Int) := by omega
        have d1 : decide (0 < k) = true := by simp; omega
        have d2 : decide ((0 : Int) < (k : Int)) = true := by simp; omega
        have HK := Lib.hid hk0
        clear hk0
        obtain ⟨_, _, hbo, p0, p1, p2, p3⟩ := HL.out (k - 1) l[k - 1] (List.getElem?_eq_getElem (by omega))
        simp only [Option.some.injEq, Addr.mk.injEq, and_true] at hbo
        obtain ⟨rfl, rfl⟩ := hbo
        replace p1 := cell_stays hww.out p1
        replace p2 := cell_stays hww.out p2
        replace p3 := cell_stays hww.out p3
        have hgetp := Lib.hid (List.getElem?_eq_getElem (l := l) (i := k - 1) (by omega))
        obtain ⟨p, hp⟩ : ∃ p, p = l[k - 1] := ⟨_, rfl⟩
        rw [← hp] at p1 p2 p3 hgetp
        clear hp p0
        obtain ⟨r, hr⟩ : ∃ r, refsC p x = r := ⟨_, rfl⟩
        have HR := Lib.hid hr
        have HRR : ∀ W, Calls Tryz.prog 50 #[.agg #[.int .i64 p.t, .int .i64 p.s, .int .i64 p.n], .agg #[.int .i64 x.t, .int .i64 x.s, .int .i64 x.n]] W fun e w' => e = .returned (.int .i64 r) ∧ Below W.heap.size W w' := fun W => (refs_bnd p x W).mono (fun e w' ⟨h1, h2⟩ => ⟨h1.trans (by rw [hr]), h2.below⟩)
        clear hr
        go_wp2_with (go_at_call 49; refine (within_any _ _ _).mono ?_; rintro e w' ⟨rfl, rfl⟩)
        refine wp_region_F (fun W => W.cell? ⟨wr.heap.size, 1, none⟩ = some (.int .i64 x.t) ∧ W.cell? ⟨wr.heap.size, 2, none⟩ = some (.int .i64 x.s) ∧ W.cell? ⟨wr.heap.size, 3, none⟩ = some (.int .i64 x.n) ∧ W.cell? ⟨w.heap.size, 0, none⟩ = some (.slice (some ⟨b, o, none⟩) l.length c) ∧ W.cell? ⟨b, o + (k - 1) * 4 + 1, none⟩ = some (.int .i64 p.t) ∧ W.cell? ⟨b, o + (k - 1) * 4 + 2, none⟩ = some (.int .i64 p.s) ∧ W.cell? ⟨b, o + (k - 1) * 4 + 3, none⟩ = some (.int .i64 p.n)) (by repeat (first | exact grows_cell _ _ _ | exact grows_true | refine grows_and ?_ ?_)) (by kernel_rfl) (by kernel_rfl) ?hF ?_; (case hF => (first | exact ⟨‹_›, ‹_›⟩ | (go_simp; done) | (simp [*]; done) | (repeat' (first | (refine And.intro ?_ ?_) | (go_simp; done) | exact cell_stays (bel_al (Below.refl _ _) _) (by assumption) | assumption)))); intro hne hxx; have hG : Hid (Grows (fun W => W.cell? ⟨wr.heap.size, 1, none⟩ = some (.int .i64 x.t) ∧ W.cell? ⟨wr.heap.size, 2, none⟩ = some (.int .i64 x.s) ∧ W.cell? ⟨wr.heap.size, 3, none⟩ = some (.int .i64 x.n) ∧ W.cell? ⟨w.heap.size, 0, none⟩ = some (.slice (some ⟨b, o, none⟩) l.length c) ∧ W.cell? ⟨b, o + (k - 1) * 4 + 1, none⟩ = some (.int .i64 p.t) ∧ W.cell? ⟨b, o + (k - 1) * 4 + 2, none⟩ = some (.int .i64 p.s) ∧ W.cell? ⟨b, o + (k - 1) * 4 + 3, none⟩ = some (.int .i64 p.n))) := (by repeat (first | exact grows_cell _ _ _ | exact grows_true | refine grows_and ?_ ?_)); (repeat (go_big_quiet_step ((go_at_call 50; exact cls_call hG (HRR _))))); clear hG hxx hne; refine wpQuiet_nil ?_; rintro _ ⟨⟨w', hb', hF'⟩, rfl⟩
        by_cases hr0 : 0 ≤ r
        · have d3 : decide (0 ≤ r) = true := by simpa using hr0
          go_wp2_with fail
          go_ret
          exact ⟨ret_i (scan_stop hget.out hi.out (bndE_14 hok.out HK.out hgetp.out (by rw [HR.out]; exact hr0)) (by decide)), bel_tr HW0.out (by repeat (first | exact Below.refl _ _ | assumption | refine Below.drew ?_ | refine bel_al ?_ _ | refine bel_set ?_ (by omega) _ | refine bel_tr ?_ (by assumption)))⟩
        · have d3 : decide (0 ≤ r) = false := by simpa using hr0
          go_wp2_with fail
          go_roundw
          case rel => exact ⟨k + 1, by omega, by go_num, Lib.hid (scan_go hget.out hi.out (bndE_0 hok.out HK.out hgetp.out (by rw [HR.out]; omega))), (by repeat (first | exact Below.refl _ _ | assumption | refine Below.drew ?_ | refine bel_al ?_ _ | refine bel_set ?_ (by omega) _ | refine bel_tr ?_ (by assumption)))⟩
          case measure => simp [intOf]; omega
    · have hk' : ¬ (k : Int) < (l.length : Int) := by omega
      go_wp2_with fail
      go_ret
      exact ⟨ret_i (scan_end (by omega) hi.out), bel_tr HW0.out hb⟩
end Go.Proofs.YtclpglgigpjfoaaGreatDoor
namespace Go.Proofs.YtclpglgigpjfoaaGreatDoor
open Go.RowKit

set_option maxRecDepth 100000 in
set_option maxHeartbeats 2000000 in
theorem rmcheck_any (l : List Bnd) (v : Value) (w : World) (hl : IsBnds w v l) :
    Calls Tryz.prog 15 #[matV v] w fun e w' => e = .returned (.int .i64 (matErr l)) ∧ Below w.heap.size w w' := by
  unfold matV matErr
  obtain ⟨A, c, rfl, h1, h2, hat⟩ := hl
  have hn := len_i64 h1 h2
  have HL := Lib.hid hat
  clear hat h1 h2
  by_cases hz : l.length = 0
  · rw [if_pos hz]
    obtain rfl : l = [] := List.eq_nil_of_length_eq_zero hz
    go_enter Tryz.func15, Tryz.ntmps15
    go_wp2_with fail
    go_ret
    exact ⟨rfl, (by repeat (first | exact Below.refl _ _ | assumption | refine Below.drew ?_ | refine bel_al ?_ _ | refine bel_set ?_ (by omega) _ | refine bel_tr ?_ (by assumption)))⟩
  rw [if_neg hz]
  have hz' : ((l.length : Int) == 0) = false := by rw [beq_eq_false_iff_ne]; omega
  have hz1 : l ≠ [] := by intro h; rw [h] at hz; exact hz rfl
  have HZ := Lib.hid hz
  clear hz
  by_cases hm : 4096 < l.length
  · rw [if_pos hm]
    have hm' : (4096 : Int) < (l.length : Int) := by omega
    go_enter Tryz.func15, Tryz.ntmps15
    go_wp2_with fail
    go_ret
    exact ⟨rfl, (by repeat (first | exact Below.refl _ _ | assumption | refine Below.drew ?_ | refine bel_al ?_ _ | refine bel_set ?_ (by omega) _ | refine bel_tr ?_ (by assumption)))⟩
  rw [if_neg hm]
  have hm' : ¬ (4096 : Int) < (l.length : Int) := by omega
  clear hm
  go_enter Tryz.func15, Tryz.ntmps15
  go_wp2_with fail
  refine wp_gen fun w0 e0 => ?_
  have hw0 : Below w.heap.size w w0 := by rw [e0]; exact (by repeat (first | exact Below.refl _ _ | assumption | refine Below.drew ?_ | refine bel_al ?_ _ | refine bel_set ?_ (by omega) _ | refine bel_tr ?_ (by assumption)))
  have x0 : w0.cell? ⟨w.heap.size, 0, none⟩ = some (.slice A l.length c) := by rw [e0]; go_simp
  have hs0 : w.heap.size < w0.heap.size := by rw [e0]; simp
  have HX := Lib.hid x0
  have HW0 := Lib.hid hw0
  clear e0 x0 hw0
  go_loopw [3] (fun i wr => ∃ k : Nat, k ≤ l.length ∧ i = .int .i64 k ∧ Hid (scanE bndE (prevL l k) (l.drop k) = scanE bndE none l) ∧ Below w0.heap.size w0 wr) (fun i _ => l.length - (intOf i).toNat)
  case atStart => exact ⟨0, Nat.zero_le _, rfl, by exact Lib.hid rfl, Below.refl _ _⟩
  case round =>
    obtain ⟨k, hk, rfl, hi, hb⟩ := hrel
    have x0 := cell_stays hb HX.out
    have hww := Lib.hid (bel_tr HW0.out hb)
    have hsz : w0.heap.size ≤ wr.heap.size := hb.size
    have hne : w.heap.size ≠ wr.heap.size := by omega
    have hne' : wr.heap.size ≠ w.heap.size := by omega
    by_cases hlt : k < l.length
    · have hk' : (k : Int) < (l.length : Int) := by omega
      obtain ⟨b, o, rfl, c0, c1, c2, c3⟩ := HL.out k l[k] (List.getElem?_eq_getElem hlt)
      replace c0 := cell_stays hww.out c0
      replace c1 := cell_stays hww.out c1
      replace c2 := cell_stays hww.out c2
      replace c3 := cell_stays hww.out c3
      have hbl : b < wr.heap.size := World.block_lt_of_cell? wr ⟨b, _, none⟩ c0
      have hnb : b ≠ wr.heap.size := by omega
      have hnb' : wr.heap.size ≠ b := by omega
      have hget := Lib.hid (List.getElem?_eq_getElem hlt)
      obtain ⟨x, hx⟩ : ∃ x, x = l[k] := ⟨_, rfl⟩
      rw [← hx] at hget c0 c1 c2 c3
      clear hx
      by_cases h1 : x.v < 0
      · have hbad : Hid (bndOk x = false) := Lib.hid (by unfold bndOk inI; simp; omega)
        go_wp2_with (go_at_call 51; refine (placed_any x _).mono ?_; rintro e w2 ⟨rfl, hg2⟩; replace hg2 := hg2.below)
        go_ret
        exact ⟨ret_i (scan_stop hget.out hi.out (bndE_2 hbad.out) (by decide)), bel_tr HW0.out (by repeat (first | exact Below.refl _ _ | assumption | refine Below.drew ?_ | refine bel_al ?_ _ | refine bel_set ?_ (by omega) _ | refine bel_tr ?_ (by assumption)))⟩
      by_cases h2 : 16 ≤ x.v
      · have hbad : Hid (bndOk x = false) := Lib.hid (by unfold bndOk inI; simp; omega)
        go_wp2_with (go_at_call 51; refine (placed_any x _).mono ?_; rintro e w2 ⟨rfl, hg2⟩; replace hg2 := hg2.below)
        go_ret
        exact ⟨ret_i (scan_stop hget.out hi.out (bndE_2 hbad.out) (by decide)), bel_tr HW0.out (by repeat (first | exact Below.refl _ _ | assumption | refine Below.drew ?_ | refine bel_al ?_ _ | refine bel_set ?_ (by omega) _ | refine bel_tr ?_ (by assumption)))⟩
      have hv : inI x.v 15 = true := by unfold inI; simp; omega
      have HV := Lib.hid hv
      clear hv
      obtain ⟨r0, hr0⟩ : ∃ r, plB x = r := ⟨_, rfl⟩
      have HP := Lib.hid hr0
      clear hr0
      cases r0 with
      | false =>
        have hbad : Hid (bndOk x = false) := Lib.hid (by unfold bndOk; rw [HV.out, HP.out]; rfl)
        go_wp2_with (go_at_call 51; refine calls_gen fun W9 e9 => ?_; have y0 : W9.cell? ⟨wr.heap.size, 0, none⟩ = some (.int .i64 x.v) := (by rw [e9]; go_simp); have y1 : W9.cell? ⟨wr.heap.size, 1, none⟩ = some (.int .i64 x.t) := (by rw [e9]; go_simp); have y2 : W9.cell? ⟨wr.heap.size, 2, none⟩ = some (.int .i64 x.s) := (by rw [e9]; go_simp); have y3 : W9.cell? ⟨wr.heap.size, 3, none⟩ = some (.int .i64 x.n) := (by rw [e9]; go_simp); have hb9 : Below wr.heap.size wr W9 := (by rw [e9]; exact (by repeat (first | exact Below.refl _ _ | assumption | refine Below.drew ?_ | refine bel_al ?_ _ | refine bel_set ?_ (by omega) _ | refine bel_tr ?_ (by assumption)))); clear e9; refine (placed_any x _).mono ?_; rw [HP.out]; rintro e w4 ⟨rfl, hg4⟩; replace hg4 := hg4.below; have hb4 := bel_tr hb9 hg4; replace y0 := cell_stays hg4 y0; replace y1 := cell_stays hg4 y1; replace y2 := cell_stays hg4 y2; replace y3 := cell_stays hg4 y3; replace x0 := cell_stays hb4 x0)
        go_ret
        exact ⟨ret_i (scan_stop hget.out hi.out (bndE_2 hbad.out) (by decide)), bel_tr HW0.out (by repeat (first | exact Below.refl _ _ | assumption | refine Below.drew ?_ | refine bel_al ?_ _ | refine bel_set ?_ (by omega) _ | refine bel_tr ?_ (by assumption)))⟩
      | true =>
      have hok : Hid (bndOk x = true) := Lib.hid (by unfold bndOk; rw [HV.out, HP.out]; rfl)
      by_cases hk0 : k = 0
      · have HK := Lib.hid hk0
        have d1 : decide (0 < k) = false := by simp [hk0]
        have d2 : decide ((0 : Int) < (k : Int)) = false := by simp [hk0]
        clear hk0
        go_wp2_with (go_at_call 51; refine calls_gen fun W9 e9 => ?_; have y0 : W9.cell? ⟨wr.heap.size, 0, none⟩ = some (.int .i64 x.v) := (by rw [e9]; go_simp); have y1 : W9.cell? ⟨wr.heap.size, 1, none⟩ = some (.int .i64 x.t) := (by rw [e9]; go_simp); have y2 : W9.cell? ⟨wr.heap.size, 2, none⟩ = some (.int .i64 x.s) := (by rw [e9]; go_simp); have y3 : W9.cell? ⟨wr.heap.size, 3, none⟩ = some (.int .i64 x.n) := (by rw [e9]; go_simp); have hb9 : Below wr.heap.size wr W9 := (by rw [e9]; exact (by repeat (first | exact Below.refl _ _ | assumption | refine Below.drew ?_ | refine bel_al ?_ _ | refine bel_set ?_ (by omega) _ | refine bel_tr ?_ (by assumption)))); clear e9; refine (placed_any x _).mono ?_; rw [HP.out]; rintro e w4 ⟨rfl, hg4⟩; replace hg4 := hg4.below; have hb4 := bel_tr hb9 hg4; replace y0 := cell_stays hg4 y0; replace y1 := cell_stays hg4 y1; replace y2 := cell_stays hg4 y2; replace y3 := cell_stays hg4 y3; replace x0 := cell_stays hb4 x0)
        refine wp_region_F (fun W => W.cell? ⟨wr.heap.size, 0, none⟩ = some (.int .i64 x.v) ∧ W.cell? ⟨wr.heap.size, 1, none⟩ = some (.int .i64 x.t)) (by repeat (first | exact grows_cell _ _ _ | exact grows_true | refine grows_and ?_ ?_)) (by kernel_rfl) (by kernel_rfl) ?hF ?_; (case hF => (first | exact ⟨‹_›, ‹_›⟩ | (go_simp; done) | (simp [*]; done) | (repeat' (first | (refine And.intro ?_ ?_) | (go_simp; done) | exact cell_stays (bel_al (Below.refl _ _) _) (by assumption) | assumption)))); intro hne hxx; have hG : Hid (Grows (fun W => W.cell? ⟨wr.heap.size, 0, none⟩ = some (.int .i64 x.v) ∧ W.cell? ⟨wr.heap.size, 1, none⟩ = some (.int .i64 x.t))) := (by repeat (first | exact grows_cell _ _ _ | exact grows_true | refine grows_and ?_ ?_)); (repeat (go_big_quiet_step (fail))); clear hG hxx hne; refine wpQuiet_nil ?_; rintro _ ⟨⟨w', hb', hF'⟩, rfl⟩
        go_wp2_with fail
        go_roundw
        case rel => exact ⟨k + 1, by omega, by go_num, Lib.hid (scan_go hget.out hi.out (bndE_first hok.out HK.out)), (by repeat (first | exact Below.refl _ _ | assumption | refine Below.drew ?_ | refine bel_al ?_ _ | refine bel_set ?_ (by omega) _ | refine bel_tr ?_ (by assumption)))⟩
        case measure => simp [intOf]; omega
      · have hk1 : (0 : Int) ≤ (k : Int) - 1 := by omega
        have hk2 : (k : Int) - 1 < (l.length : Int) := by omega
        have d1 : decide (0 < k) = true := by simp; omega
        have d2 : decide ((0 : Int) < (k : Int)) = true := by simp; omega
        have HK := Lib.hid hk0
        clear hk0
        obtain ⟨_, _, hbo, p0, p1, p2, p3⟩ := HL.out (k - 1) l[k - 1] (List.getElem?_eq_getElem (by omega))
        simp only [Option.some.injEq, Addr.mk.injEq, and_true] at hbo
        obtain ⟨rfl, rfl⟩ := hbo
        replace p1 := cell_stays hww.out p1
        replace p2 := cell_stays hww.out p2
        replace p3 := cell_stays hww.out p3
        have hgetp := Lib.hid (List.getElem?_eq_getElem (l := l) (i := k - 1) (by omega))
        obtain ⟨p, hp⟩ : ∃ p, p = l[k - 1] := ⟨_, rfl⟩
        rw [← hp] at p1 p2 p3 hgetp
        clear hp p0
        obtain ⟨r, hr⟩ : ∃ r, refsC p x = r := ⟨_, rfl⟩
        have HR := Lib.hid hr
        have HRR : ∀ W, Calls Tryz.prog 36 #[.agg #[.int .i64 p.t, .int .i64 p.s, .int .i64 p.n], .agg #[.int .i64 x.t, .int .i64 x.s, .int .i64 x.n]] W fun e w' => e = .returned (.int .i64 r) ∧ Below W.heap.size W w' := fun W => (rrefs_bnd p x W).mono (fun e w' ⟨h1, h2⟩ => ⟨h1.trans (by rw [hr]), h2.below⟩)
        clear hr
        go_wp2_with (go_at_call 51; refine calls_gen fun W9 e9 => ?_; have y0 : W9.cell? ⟨wr.heap.size, 0, none⟩ = some (.int .i64 x.v) := (by rw [e9]; go_simp); have y1 : W9.cell? ⟨wr.heap.size, 1, none⟩ = some (.int .i64 x.t) := (by rw [e9]; go_simp); have y2 : W9.cell? ⟨wr.heap.size, 2, none⟩ = some (.int .i64 x.s) := (by rw [e9]; go_simp); have y3 : W9.cell? ⟨wr.heap.size, 3, none⟩ = some (.int .i64 x.n) := (by rw [e9]; go_simp); have hb9 : Below wr.heap.size wr W9 := (by rw [e9]; exact (by repeat (first | exact Below.refl _ _ | assumption | refine Below.drew ?_ | refine bel_al ?_ _ | refine bel_set ?_ (by omega) _ | refine bel_tr ?_ (by assumption)))); clear e9; refine (placed_any x _).mono ?_; rw [HP.out]; rintro e w4 ⟨rfl, hg4⟩; replace hg4 := hg4.below; have hb4 := bel_tr hb9 hg4; replace y0 := cell_stays hg4 y0; replace y1 := cell_stays hg4 y1; replace y2 := cell_stays hg4 y2; replace y3 := cell_stays hg4 y3; replace x0 := cell_stays hb4 x0; replace p1 := cell_stays hb4 p1; replace p2 := cell_stays hb4 p2; replace p3 := cell_stays hb4 p3)
        refine wp_region_F (fun W => W.cell? ⟨wr.heap.size, 1, none⟩ = some (.int .i64 x.t) ∧ W.cell? ⟨wr.heap.size, 2, none⟩ = some (.int .i64 x.s) ∧ W.cell? ⟨wr.heap.size, 3, none⟩ = some (.int .i64 x.n) ∧ W.cell? ⟨w.heap.size, 0, none⟩ = some (.slice (some ⟨b, o, none⟩) l.length c) ∧ W.cell? ⟨b, o + (k - 1) * 4 + 1, none⟩ = some (.int .i64 p.t) ∧ W.cell? ⟨b, o + (k - 1) * 4 + 2, none⟩ = some (.int .i64 p.s) ∧ W.cell? ⟨b, o + (k - 1) * 4 + 3, none⟩ = some (.int .i64 p.n)) (by repeat (first | exact grows_cell _ _ _ | exact grows_true | refine grows_and ?_ ?_)) (by kernel_rfl) (by kernel_rfl) ?hF ?_; (case hF => (first | exact ⟨‹_›, ‹_›⟩ | (go_simp; done) | (simp [*]; done) | (repeat' (first | (refine And.intro ?_ ?_) | (go_simp; done) | exact cell_stays (bel_al (Below.refl _ _) _) (by assumption) | assumption)))); intro hne hxx; have hG : Hid (Grows (fun W => W.cell? ⟨wr.heap.size, 1, none⟩ = some (.int .i64 x.t) ∧ W.cell? ⟨wr.heap.size, 2, none⟩ = some (.int .i64 x.s) ∧ W.cell? ⟨wr.heap.size, 3, none⟩ = some (.int .i64 x.n) ∧ W.cell? ⟨w.heap.size, 0, none⟩ = some (.slice (some ⟨b, o, none⟩) l.length c) ∧ W.cell? ⟨b, o + (k - 1) * 4 + 1, none⟩ = some (.int .i64 p.t) ∧ W.cell? ⟨b, o + (k - 1) * 4 + 2, none⟩ = some (.int .i64 p.s) ∧ W.cell? ⟨b, o + (k - 1) * 4 + 3, none⟩ = some (.int .i64 p.n))) := (by repeat (first | exact grows_cell _ _ _ | exact grows_true | refine grows_and ?_ ?_)); (repeat (go_big_quiet_step ((go_at_call 36; exact cls_call hG (HRR _))))); clear hG hxx hne; refine wpQuiet_nil ?_; rintro _ ⟨⟨w', hb', hF'⟩, rfl⟩
        by_cases hr0 : 0 ≤ r
        · have d3 : decide (0 ≤ r) = true := by simpa using hr0
          go_wp2_with fail
          go_ret
          exact ⟨ret_i (scan_stop hget.out hi.out (bndE_14 hok.out HK.out hgetp.out (by rw [HR.out]; exact hr0)) (by decide)), bel_tr HW0.out (by repeat (first | exact Below.refl _ _ | assumption | refine Below.drew ?_ | refine bel_al ?_ _ | refine bel_set ?_ (by omega) _ | refine bel_tr ?_ (by assumption)))⟩
        · have d3 : decide (0 ≤ r) = false := by simpa using hr0
          go_wp2_with fail
          go_roundw
          case rel => exact ⟨k + 1, by omega, by go_num, Lib.hid (scan_go hget.out hi.out (bndE_0 hok.out HK.out hgetp.out (by rw [HR.out]; omega))), (by repeat (first | exact Below.refl _ _ | assumption | refine Below.drew ?_ | refine bel_al ?_ _ | refine bel_set ?_ (by omega) _ | refine bel_tr ?_ (by assumption)))⟩
          case measure => simp [intOf]; omega
    · have hk' : ¬ (k : Int) < (l.length : Int) := by omega
      go_wp2_with fail
      go_ret
      exact ⟨ret_i (scan_end (by omega) hi.out), bel_tr HW0.out hb⟩
end Go.Proofs.YtclpglgigpjfoaaGreatDoor
namespace Go.Proofs.YtclpglgigpjfoaaGreatDoor
open Go.RowKit

def shortM (x : List Bnd) : Bool := decide ((x.length : Int) ≤ 20)
def fewM (l : List (List Bnd)) : Bool := (l.take 40).all shortM && decide ((l.length : Int) ≤ 30)
theorem fewM_parts {l : List (List Bnd)} (h : fewM l = true) : l.length ≤ 30 ∧ ∀ x ∈ l, x.length ≤ 20 := by
  unfold fewM at h
  rw [Bool.and_eq_true] at h
  have h1 : l.length ≤ 30 := by have := of_decide_eq_true h.2; omega
  refine ⟨h1, fun x hx => ?_⟩
  have h2 := h.1
  rw [List.take_of_length_le (show l.length ≤ 40 by omega), List.all_eq_true] at h2
  have := of_decide_eq_true (h2 x hx)
  omega

set_option maxRecDepth 100000 in
set_option maxHeartbeats 1000000 in
theorem few17_any (l : List (List Bnd)) (v : Value) (w : World) (hl : IsMats w v l) :
    Calls Tryz.prog 10 #[v] w fun e w' => e = .returned (.bool (fewM l)) ∧ w = w' := by
  obtain ⟨A, c, rfl, h1, h2, hat⟩ := hl
  have hn := len_i64 h1 h2
  have HL := Lib.hid hat
  clear hat h1 h2
  go_enter Tryz.func10, Tryz.ntmps10
  go_wp2
  go_loop [3] (fun i => ∃ k : Nat, k ≤ l.length ∧ k ≤ 40 ∧ i = .int .i64 k ∧ Hid (∀ (j : Nat) (x : List Bnd), l[j]? = some x → j < k → shortM x = true)) (fun i => l.length - (intOf i).toNat)
  case atStart => exact ⟨0, Nat.zero_le _, by omega, rfl, fun _ _ _ h => absurd h (by omega)⟩
  case round =>
    obtain ⟨k, hk, hk20, rfl, hi⟩ := hrel
    by_cases hlt : k < l.length ∧ k < 40
    · obtain ⟨hlt1, hlt2⟩ := hlt
      obtain ⟨b, o, rfl, v, hv, c0⟩ := HL.out k l[k] (List.getElem?_eq_getElem hlt1)
      have hget := Lib.hid (List.getElem?_eq_getElem hlt1)
      obtain ⟨x, hx⟩ : ∃ x, x = l[k] := ⟨_, rfl⟩
      rw [← hx] at hv hget
      clear hx
      rw [Nat.mul_one] at c0
      obtain ⟨A', c', rfl, hx1, hx2, -⟩ := hv
      have hxn := len_i64 hx1 hx2
      clear hx1 hx2
      have hk' : (k : Int) < (l.length : Int) := by omega
      have hk'' : (k : Int) < 40 := by omega
      by_cases hb : (x.length : Int) ≤ 20
      · have HB : Hid (shortM x = true) := Lib.hid (decide_eq_true hb)
        have hb' : ¬ 20 < (x.length : Int) := by omega
        go_wp2
        go_round
        case rel =>
          refine ⟨k + 1, by omega, by omega, by go_num, ?_⟩
          intro j y hj hjk
          rcases Nat.lt_or_eq_of_le (Nat.le_of_lt_succ hjk) with h | h
          · exact hi j y hj h
          · subst h; rw [hget.out] at hj; injection hj with hj; subst hj; exact HB.out
        case measure => simp [intOf]; omega
      · have hb' : 20 < (x.length : Int) := by omega
        have HF : Hid (fewM l = false) := Lib.hid (by
          have : ((l.take 40).all shortM) = false := by
            rw [List.all_eq_false]
            refine ⟨x, ?_, by unfold shortM; simpa using hb⟩
            have h7 : (l.take 40)[k]? = some x := by rw [List.getElem?_take, if_pos hlt2]; exact hget.out
            exact List.mem_of_getElem? h7
          simp only [fewM, this, Bool.false_and])
        go_wp2
        go_ret
        rw [HF.out]
        exact ⟨rfl, rfl⟩
    · have HF : Hid (fewM l = decide ((l.length : Int) ≤ 30)) := Lib.hid (by
        have : ((l.take 40).all shortM) = true := by
          rw [List.all_eq_true]
          intro x hx
          obtain ⟨j, hj⟩ := List.mem_iff_getElem?.1 hx
          have hjl := (List.getElem?_eq_some_iff.1 hj).1
          rw [List.length_take] at hjl
          rw [List.getElem?_take, if_pos (by omega)] at hj
          exact hi j x hj (by omega)
        simp only [fewM, this, Bool.true_and])
      by_cases h1 : k < l.length
      · have h3 : (k : Int) < (l.length : Int) := by omega
        have h2 : ¬ (k : Int) < 40 := by omega
        have h4 : ¬ (l.length : Int) ≤ 30 := by omega
        have h5 : decide ((l.length : Int) ≤ 30) = false := by simpa using h4
        rw [h5] at HF
        clear hlt
        go_wp2
        go_ret
        rw [HF.out]
        exact ⟨rfl, rfl⟩
      · have h3 : ¬ (k : Int) < (l.length : Int) := by omega
        clear hlt
        by_cases h4 : (l.length : Int) ≤ 30
        · have h5 : decide ((l.length : Int) ≤ 30) = true := by simpa using h4
          rw [h5] at HF
          go_wp2
          go_ret
          rw [HF.out]
          exact ⟨rfl, rfl⟩
        · have h5 : decide ((l.length : Int) ≤ 30) = false := by simpa using h4
          rw [h5] at HF
          go_wp2
          go_ret
          rw [HF.out]
          exact ⟨rfl, rfl⟩
def shortV (x : Vl) : Bool := decide ((x.text.size : Int) ≤ 128)
def fewV (l : List Vl) : Bool := (l.take 40).all shortV && decide ((l.length : Int) < 40)
theorem fewV_parts {l : List Vl} (h : fewV l = true) : l.length < 40 ∧ ∀ x ∈ l, x.text.size ≤ 128 := by
  unfold fewV at h
  rw [Bool.and_eq_true] at h
  have h1 : l.length < 40 := by have := of_decide_eq_true h.2; omega
  refine ⟨h1, fun x hx => ?_⟩
  have h2 := h.1
  rw [List.take_of_length_le (Nat.le_of_lt h1), List.all_eq_true] at h2
  have := of_decide_eq_true (h2 x hx)
  omega

set_option maxRecDepth 100000 in
set_option maxHeartbeats 1000000 in
theorem few01_any (l : List Vl) (v : Value) (w : World) (hl : IsVls w v l) :
    Calls Tryz.prog 61 #[v] w fun e w' => e = .returned (.bool (fewV l)) ∧ w = w' := by
  obtain ⟨A, c, rfl, h1, h2, hat⟩ := hl
  have hn := len_i64 h1 h2
  have HL := Lib.hid hat
  clear hat h1 h2
  go_enter Tryz.func61, Tryz.ntmps61
  go_wp2
  go_loop [3] (fun i => ∃ k : Nat, k ≤ l.length ∧ k ≤ 40 ∧ i = .int .i64 k ∧ Hid (∀ (j : Nat) (x : Vl), l[j]? = some x → j < k → shortV x = true)) (fun i => l.length - (intOf i).toNat)
  case atStart => exact ⟨0, Nat.zero_le _, by omega, rfl, fun _ _ _ h => absurd h (by omega)⟩
  case round =>
    obtain ⟨k, hk, hk20, rfl, hi⟩ := hrel
    by_cases hlt : k < l.length ∧ k < 40
    · obtain ⟨hlt1, hlt2⟩ := hlt
      obtain ⟨b, o, rfl, c0, c1, c2⟩ := HL.out k l[k] (List.getElem?_eq_getElem hlt1)
      have hget := Lib.hid (List.getElem?_eq_getElem hlt1)
      obtain ⟨x, hx⟩ : ∃ x, x = l[k] := ⟨_, rfl⟩
      rw [← hx] at c0 c1 c2 hget
      clear hx c0 c1
      have hk' : (k : Int) < (l.length : Int) := by omega
      have hk'' : (k : Int) < 40 := by omega
      by_cases hb : (x.text.size : Int) ≤ 128
      · have HB : Hid (shortV x = true) := Lib.hid (decide_eq_true hb)
        have hb' : ¬ 128 < (x.text.size : Int) := by omega
        go_wp2
        go_round
        case rel =>
          refine ⟨k + 1, by omega, by omega, by go_num, ?_⟩
          intro j y hj hjk
          rcases Nat.lt_or_eq_of_le (Nat.le_of_lt_succ hjk) with h | h
          · exact hi j y hj h
          · subst h; rw [hget.out] at hj; injection hj with hj; subst hj; exact HB.out
        case measure => simp [intOf]; omega
      · have hb' : 128 < (x.text.size : Int) := by omega
        have HF : Hid (fewV l = false) := Lib.hid (by
          have : ((l.take 40).all shortV) = false := by
            rw [List.all_eq_false]
            refine ⟨x, ?_, by unfold shortV; simpa using hb⟩
            have h7 : (l.take 40)[k]? = some x := by rw [List.getElem?_take, if_pos hlt2]; exact hget.out
            exact List.mem_of_getElem? h7
          simp only [fewV, this, Bool.false_and])
        go_wp2
        go_ret
        rw [HF.out]
        exact ⟨rfl, rfl⟩
    · have HF : Hid (fewV l = decide ((l.length : Int) < 40)) := Lib.hid (by
        have : ((l.take 40).all shortV) = true := by
          rw [List.all_eq_true]
          intro x hx
          obtain ⟨j, hj⟩ := List.mem_iff_getElem?.1 hx
          have hjl := (List.getElem?_eq_some_iff.1 hj).1
          rw [List.length_take] at hjl
          rw [List.getElem?_take, if_pos (by omega)] at hj
          exact hi j x hj (by omega)
        simp only [fewV, this, Bool.true_and])
      by_cases h1 : k < l.length
      · have h3 : (k : Int) < (l.length : Int) := by omega
        have h2 : ¬ (k : Int) < 40 := by omega
        have h4 : ¬ (l.length : Int) < 40 := by omega
        have h5 : decide ((l.length : Int) < 40) = false := by simpa using h4
        rw [h5] at HF
        clear hlt
        go_wp2
        go_ret
        rw [HF.out]
        exact ⟨rfl, rfl⟩
      · have h3 : ¬ (k : Int) < (l.length : Int) := by omega
        clear hlt
        by_cases h4 : (l.length : Int) < 40
        · have h5 : decide ((l.length : Int) < 40) = true := by simpa using h4
          rw [h5] at HF
          go_wp2
          go_ret
          rw [HF.out]
          exact ⟨rfl, rfl⟩
        · have h5 : decide ((l.length : Int) < 40) = false := by simpa using h4
          rw [h5] at HF
          go_wp2
          go_ret
          rw [HF.out]
          exact ⟨rfl, rfl⟩
def shortE5 (x : Evt) : Bool := decide ((x.vals.length : Int) ≤ 12) && fewV x.vals
def fewE (l : List Evt) : Bool := (l.take 20).all shortE5 && decide ((l.length : Int) ≤ 12)
theorem fewE_parts {l : List Evt} (h : fewE l = true) : l.length ≤ 12 ∧ ∀ x ∈ l, x.vals.length ≤ 12 ∧ fewV x.vals = true := by
  unfold fewE at h
  rw [Bool.and_eq_true] at h
  have h1 : l.length ≤ 12 := by have := of_decide_eq_true h.2; omega
  refine ⟨h1, fun x hx => ?_⟩
  have h2 := h.1
  rw [List.take_of_length_le (show l.length ≤ 20 by omega), List.all_eq_true] at h2
  have h3 := h2 x hx
  unfold shortE5 at h3
  rw [Bool.and_eq_true] at h3
  have := of_decide_eq_true h3.1
  exact ⟨by omega, h3.2⟩

set_option maxRecDepth 100000 in
set_option maxHeartbeats 1000000 in
theorem few05_any (l : List Evt) (v : Value) (w : World) (hl : IsEvts w v l) :
    Calls Tryz.prog 21 #[v] w fun e w' => e = .returned (.bool (fewE l)) ∧ w = w' := by
  obtain ⟨A, c, rfl, h1, h2, hat⟩ := hl
  have hn := len_i64 h1 h2
  have HL := Lib.hid hat
  clear hat h1 h2
  go_enter Tryz.func21, Tryz.ntmps21
  go_wp2
  go_loop [3] (fun i => ∃ k : Nat, k ≤ l.length ∧ k ≤ 20 ∧ i = .int .i64 k ∧ Hid (∀ (j : Nat) (x : Evt), l[j]? = some x → j < k → shortE5 x = true)) (fun i => l.length - (intOf i).toNat)
  case atStart => exact ⟨0, Nat.zero_le _, by omega, rfl, fun _ _ _ h => absurd h (by omega)⟩
  case round =>
    obtain ⟨k, hk, hk20, rfl, hi⟩ := hrel
    by_cases hlt : k < l.length ∧ k < 20
    · obtain ⟨hlt1, hlt2⟩ := hlt
      obtain ⟨b, o, rfl, v, hv, c0, c1, c2, c3, c4⟩ := HL.out k l[k] (List.getElem?_eq_getElem hlt1)
      have hget := Lib.hid (List.getElem?_eq_getElem hlt1)
      obtain ⟨x, hx⟩ : ∃ x, x = l[k] := ⟨_, rfl⟩
      rw [← hx] at hv hget
      clear hx c0 c1 c2 c3
      have HV := Lib.hid hv
      obtain ⟨A', c', rfl, hx1, hx2, -⟩ := hv
      have hxn := len_i64 hx1 hx2
      clear hx1 hx2
      have hk' : (k : Int) < (l.length : Int) := by omega
      have hk'' : (k : Int) < 20 := by omega
      have bad : ∀ h : shortE5 x = false, fewE l = false := fun h => by
        have : ((l.take 20).all shortE5) = false := by
          rw [List.all_eq_false]
          refine ⟨x, ?_, by rw [h]; simp⟩
          have h7 : (l.take 20)[k]? = some x := by rw [List.getElem?_take, if_pos hlt2]; exact hget.out
          exact List.mem_of_getElem? h7
        simp only [fewE, this, Bool.false_and]
      have BAD := Lib.hid bad
      clear bad
      by_cases hb : (x.vals.length : Int) ≤ 12
      · have hb' : ¬ 12 < (x.vals.length : Int) := by omega
        obtain ⟨t, ht⟩ : ∃ t, fewV x.vals = t := ⟨_, rfl⟩
        have HT := Lib.hid ht
        clear ht
        cases t with
        | true =>
          have HB : Hid (shortE5 x = true) := Lib.hid (by unfold shortE5; rw [HT.out]; simpa using hb)
          go_wp2_with (go_at_call 61; refine (few01_any _ _ _ HV.out).mono ?_; rw [HT.out]; rintro e w' ⟨rfl, rfl⟩)
          go_round
          case rel =>
            refine ⟨k + 1, by omega, by omega, by go_num, ?_⟩
            intro j y hj hjk
            rcases Nat.lt_or_eq_of_le (Nat.le_of_lt_succ hjk) with h | h
            · exact hi j y hj h
            · subst h; rw [hget.out] at hj; injection hj with hj; subst hj; exact HB.out
          case measure => simp [intOf]; omega
        | false =>
          have HF : Hid (fewE l = false) := Lib.hid (BAD.out (by unfold shortE5; rw [HT.out, Bool.and_false]))
          go_wp2_with (go_at_call 61; refine (few01_any _ _ _ HV.out).mono ?_; rw [HT.out]; rintro e w' ⟨rfl, rfl⟩)
          go_ret
          rw [HF.out]
          exact ⟨rfl, rfl⟩
      · have hb' : 12 < (x.vals.length : Int) := by omega
        have HF : Hid (fewE l = false) := Lib.hid (BAD.out (by unfold shortE5; rw [decide_eq_false hb, Bool.false_and]))
        go_wp2
        go_ret
        rw [HF.out]
        exact ⟨rfl, rfl⟩
    · have HF : Hid (fewE l = decide ((l.length : Int) ≤ 12)) := Lib.hid (by
        have : ((l.take 20).all shortE5) = true := by
          rw [List.all_eq_true]
          intro x hx
          obtain ⟨j, hj⟩ := List.mem_iff_getElem?.1 hx
          have hjl := (List.getElem?_eq_some_iff.1 hj).1
          rw [List.length_take] at hjl
          rw [List.getElem?_take, if_pos (by omega)] at hj
          exact hi j x hj (by omega)
        simp only [fewE, this, Bool.true_and])
      by_cases h1 : k < l.length
      · have h3 : (k : Int) < (l.length : Int) := by omega
        have h2 : ¬ (k : Int) < 20 := by omega
        have h4 : ¬ (l.length : Int) ≤ 12 := by omega
        have h5 : decide ((l.length : Int) ≤ 12) = false := by simpa using h4
        rw [h5] at HF
        clear hlt
        go_wp2
        go_ret
        rw [HF.out]
        exact ⟨rfl, rfl⟩
      · have h3 : ¬ (k : Int) < (l.length : Int) := by omega
        clear hlt
        by_cases h4 : (l.length : Int) ≤ 12
        · have h5 : decide ((l.length : Int) ≤ 12) = true := by simpa using h4
          rw [h5] at HF
          go_wp2
          go_ret
          rw [HF.out]
          exact ⟨rfl, rfl⟩
        · have h5 : decide ((l.length : Int) ≤ 12) = false := by simpa using h4
          rw [h5] at HF
          go_wp2
          go_ret
          rw [HF.out]
          exact ⟨rfl, rfl⟩
end Go.Proofs.YtclpglgigpjfoaaGreatDoor
