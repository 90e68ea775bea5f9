/- value.Check, ref01.Check; which values suit an aggregate. -/
import Derived.Test.YtclpglgigpjfoaaGreatDoorQMseen
namespace Go.Proofs.YtclpglgigpjfoaaGreatDoor
open Go.RowKit

/-- the error of a value -/
def valE (v : Vl) : Int :=
  if v.kind < 0 ∨ 2 < v.kind then 1
  else if v.kind = 2 then (if v.num ≠ 0 then 3 else if 64 < v.text.size then 13 else 0)
  else if 0 < v.text.size then 3
  else if (v.kind = 1 ∧ (v.num < 0 ∨ 1 < v.num)) ∨ v.num < -1099511627776 ∨ 1099511627776 < v.num then 2 else 0
theorem toList_nil {s : ByteArray} (h : s.size = 0) : s.toList = [] := by
  rw [ByteArray.toList_eq]
  exact List.eq_nil_of_length_eq_zero (by simpa using h)
theorem toList_cons {s : ByteArray} (h : 0 < s.size) : s.toList.isEmpty = false := by
  rw [ByteArray.toList_eq]
  cases hs : s.data.toList with
  | nil => exfalso; have : s.data.toList.length = s.size := rfl; rw [hs] at this; simp at this; omega
  | cons => rfl
theorem isEmpty_size (s : ByteArray) : s.toList.isEmpty = decide (s.size = 0) := by
  by_cases h : s.size = 0
  · rw [toList_nil h]; simp [h]
  · rw [toList_cons (by omega)]; simp [h]
def sizeE (v : Vl) : Int :=
  if v.kind = 0 ∧ (v.num < -1099511627776 ∨ 1099511627776 < v.num) then 2
  else if v.kind = 1 ∧ v.num ≠ 0 ∧ v.num ≠ 1 then 2
  else if 64 < v.text.size then 13 else 0
theorem vsize_any (v : Vl) (w : World) : Calls Tryz.prog 190 #[vlV v] w fun e w' => e = .returned (.int .i64 (sizeE v)) ∧ Below w.heap.size w w' := by
  obtain ⟨k, n, s⟩ := v
  obtain ⟨R, hR⟩ : ∃ R, sizeE ⟨k, n, s⟩ = R := ⟨_, rfl⟩
  have HR := Lib.hid hR
  rw [hR]
  clear hR
  unfold vlV
  by_cases h0 : k = 0
  · subst h0
    by_cases h1 : n < -1099511627776
    · go_enter Tryz.func190, Tryz.ntmps190
      go_wp2
      go_ret
      exact ⟨ret_i (by rw [← HR.out]; unfold sizeE; dsimp only; ((try simp only [ne_eq] at *); (repeat' split) <;> first | rfl | omega | (exfalso; simp_all; done) | (exfalso; simp_all; omega))), bel_one _ _⟩
    · by_cases h2 : 1099511627776 < n
      · go_enter Tryz.func190, Tryz.ntmps190
        go_wp2
        go_ret
        exact ⟨ret_i (by rw [← HR.out]; unfold sizeE; dsimp only; ((try simp only [ne_eq] at *); (repeat' split) <;> first | rfl | omega | (exfalso; simp_all; done) | (exfalso; simp_all; omega))), bel_one _ _⟩
      · go_enter Tryz.func190, Tryz.ntmps190
        go_wp2
        all_goals
          go_ret
          exact ⟨ret_i (by rw [← HR.out]; unfold sizeE; dsimp only; ((try simp only [ne_eq] at *); (repeat' split) <;> first | rfl | omega | (exfalso; simp_all; done) | (exfalso; simp_all; omega))), bel_one _ _⟩
  · by_cases h1 : k = 1
    · subst h1
      by_cases h2 : n = 0
      · subst h2
        go_enter Tryz.func190, Tryz.ntmps190
        go_wp2
        all_goals
          go_ret
          exact ⟨ret_i (by rw [← HR.out]; unfold sizeE; dsimp only; ((try simp only [ne_eq] at *); (repeat' split) <;> first | rfl | omega | (exfalso; simp_all; done) | (exfalso; simp_all; omega))), bel_one _ _⟩
      · by_cases h3 : n = 1
        · subst h3
          go_enter Tryz.func190, Tryz.ntmps190
          go_wp2
          all_goals
            go_ret
            exact ⟨ret_i (by rw [← HR.out]; unfold sizeE; dsimp only; ((try simp only [ne_eq] at *); (repeat' split) <;> first | rfl | omega | (exfalso; simp_all; done) | (exfalso; simp_all; omega))), bel_one _ _⟩
        · go_enter Tryz.func190, Tryz.ntmps190
          go_wp2
          all_goals
            go_ret
            exact ⟨ret_i (by rw [← HR.out]; unfold sizeE; dsimp only; ((try simp only [bne_iff_ne, bne_eq_false_iff_eq, ne_eq] at *); (repeat' split) <;> first | rfl | omega | (exfalso; simp_all; done) | (exfalso; simp_all; omega))), bel_one _ _⟩
    · go_enter Tryz.func190, Tryz.ntmps190
      go_wp2
      all_goals
        go_ret
        exact ⟨ret_i (by rw [← HR.out]; unfold sizeE; dsimp only; ((try simp only [ne_eq] at *); (repeat' split) <;> first | rfl | omega | (exfalso; simp_all; done) | (exfalso; simp_all; omega))), bel_one _ _⟩
theorem vcheck_any (v : Vl) (w : World) : Calls Tryz.prog 174 #[vlV v] w fun e w' => e = .returned (.int .i64 (valE v)) ∧ Below w.heap.size w w' := by
  have HSZ := Lib.hid (vsize_any v)
  obtain ⟨k, n, s⟩ := v
  obtain ⟨R, hR⟩ : ∃ R, valE ⟨k, n, s⟩ = R := ⟨_, rfl⟩
  have HR := Lib.hid hR
  rw [hR]
  obtain ⟨Z, hZ⟩ : ∃ Z, sizeE ⟨k, n, s⟩ = Z := ⟨_, rfl⟩
  rw [hZ] at HSZ
  have HZ := Lib.hid hZ
  clear hR hZ
  unfold vlV at HSZ ⊢
  go_enter Tryz.func174, Tryz.ntmps174
  go_wp2_with (go_at_call 190; refine (HSZ.out _).mono ?_; rintro e w' ⟨rfl, hb⟩)
  all_goals
    go_ret
    first
      | exact ⟨ret_i (by rw [← HZ.out, ← HR.out]; clear HSZ HR HZ; unfold sizeE valE; dsimp only; ((try simp only [isEmpty_size, Bool.not_eq_false', decide_eq_true_eq, beq_iff_eq, beq_eq_false_iff_ne, bne_eq_false_iff_eq, ne_eq] at *); (repeat' split) <;> first | rfl | omega | (exfalso; simp_all; done) | (exfalso; simp_all; omega))), bel_tr (bel_one _ _) hb⟩
      | exact ⟨ret_i (by rw [← HR.out]; clear HSZ HR HZ; unfold valE; dsimp only; ((try simp only [isEmpty_size, Bool.not_eq_true', decide_eq_false_iff_not, beq_iff_eq, bne_iff_ne, beq_eq_false_iff_ne, ne_eq] at *); (repeat' split) <;> first | rfl | omega | (exfalso; simp_all; done) | (exfalso; simp_all; omega))), bel_one _ _⟩
theorem rvcheck_any (v : Vl) (w : World) : Calls Tryz.prog 179 #[vlV v] w fun e w' => e = .returned (.int .i64 (valE v)) ∧ Below w.heap.size w w' := by
  obtain ⟨k, n, s⟩ := v
  obtain ⟨R, hR⟩ : ∃ R, valE ⟨k, n, s⟩ = R := ⟨_, rfl⟩
  have HR := Lib.hid hR
  rw [hR]
  clear hR
  unfold vlV
  by_cases h0 : k < 0
  · go_enter Tryz.func179, Tryz.ntmps179
    go_wp2
    go_ret
    exact ⟨ret_i (by rw [← HR.out]; clear HR; unfold valE; dsimp only; ((try simp only [ne_eq] at *); (repeat' split) <;> first | rfl | omega | (exfalso; simp_all; done) | (exfalso; simp_all; omega))), bel_one _ _⟩
  · by_cases h1 : k = 1
    · subst h1
      by_cases h2 : n < 0
      · go_enter Tryz.func179, Tryz.ntmps179
        go_wp2
        all_goals
          go_ret
          exact ⟨ret_i (by rw [← HR.out]; clear HR; unfold valE; dsimp only; ((try simp only [isEmpty_size, Bool.not_eq_true', Bool.not_eq_false', decide_eq_false_iff_not, decide_eq_true_eq, ne_eq] at *); (repeat' split) <;> first | rfl | omega | (exfalso; simp_all; done) | (exfalso; simp_all; omega))), bel_one _ _⟩
      · by_cases h3 : 1 < n
        · go_enter Tryz.func179, Tryz.ntmps179
          go_wp2
          all_goals
            go_ret
            exact ⟨ret_i (by rw [← HR.out]; clear HR; unfold valE; dsimp only; ((try simp only [isEmpty_size, Bool.not_eq_true', Bool.not_eq_false', decide_eq_false_iff_not, decide_eq_true_eq, ne_eq] at *); (repeat' split) <;> first | rfl | omega | (exfalso; simp_all; done) | (exfalso; simp_all; omega))), bel_one _ _⟩
        · have h4 : ¬ n < -1099511627776 := by omega
          go_enter Tryz.func179, Tryz.ntmps179
          go_wp2
          all_goals
            go_ret
            exact ⟨ret_i (by rw [← HR.out]; clear HR; unfold valE; dsimp only; ((try simp only [isEmpty_size, Bool.not_eq_true', Bool.not_eq_false', decide_eq_false_iff_not, decide_eq_true_eq, ne_eq] at *); (repeat' split) <;> first | rfl | omega | (exfalso; simp_all; done) | (exfalso; simp_all; omega))), bel_one _ _⟩
    · have h1' : (k == 1) = false := by simpa using h1
      by_cases h4 : n < -1099511627776
      · go_enter Tryz.func179, Tryz.ntmps179
        go_wp2
        all_goals
          go_ret
          exact ⟨ret_i (by rw [← HR.out]; clear HR; unfold valE; dsimp only; ((try simp only [isEmpty_size, Bool.not_eq_true', Bool.not_eq_false', decide_eq_false_iff_not, decide_eq_true_eq, beq_iff_eq, bne_iff_ne, beq_eq_false_iff_ne, ne_eq] at *); (repeat' split) <;> first | rfl | omega | (exfalso; simp_all; done) | (exfalso; simp_all; omega))), bel_one _ _⟩
      · go_enter Tryz.func179, Tryz.ntmps179
        go_wp2
        all_goals
          go_ret
          exact ⟨ret_i (by rw [← HR.out]; clear HR; unfold valE; dsimp only; ((try simp only [isEmpty_size, Bool.not_eq_true', Bool.not_eq_false', decide_eq_false_iff_not, decide_eq_true_eq, beq_iff_eq, bne_iff_ne, beq_eq_false_iff_ne, bne_eq_false_iff_eq, ne_eq] at *); (repeat' split) <;> first | rfl | omega | (exfalso; simp_all; done) | (exfalso; simp_all; omega))), bel_one _ _⟩
end Go.Proofs.YtclpglgigpjfoaaGreatDoor
namespace Go.Proofs.YtclpglgigpjfoaaGreatDoor
open Go.RowKit

def sutB (k : Int) (v : Vl) : Bool := decide (v.kind = 0 ∨ k = 0 ∨ k = 4 ∨ k = 5)
def wrongE (k : Int) (v : Vl) : Int := if valE v ≠ 0 then valE v else if sutB k v = true then 0 else 9
def knownB (k : Int) : Bool := decide (0 ≤ k ∧ k ≤ 5)
def zeroVl : Vl := ⟨0, 0, ⟨#[]⟩⟩
structure Ac where
  kind : Int
  count : Int
  val : Vl
def accV (a : Ac) : Value := .agg #[.int .i64 a.kind, .int .i64 a.count, .int .i64 a.val.kind, .int .i64 a.val.num, .string a.val.text]

theorem known_any (k : Int) (w : World) : Calls Tryz.prog 202 #[.int .i64 k] w fun e w' => e = .returned (.bool (knownB k)) ∧ w = w' := by
  obtain ⟨R, hR⟩ : ∃ R, knownB k = R := ⟨_, rfl⟩
  have HR := Lib.hid hR
  rw [hR]
  clear hR
  by_cases h0 : 0 ≤ k
  · go_enter Tryz.func202, Tryz.ntmps202
    go_wp2
    go_ret
    exact ⟨by rw [← HR.out]; unfold knownB; simp [h0], rfl⟩
  · go_enter Tryz.func202, Tryz.ntmps202
    go_wp2
    go_ret
    exact ⟨by rw [← HR.out]; unfold knownB; simp; omega, rfl⟩
theorem rknown_any (k : Int) (w : World) : Calls Tryz.prog 194 #[.int .i64 k] w fun e w' => e = .returned (.bool (knownB k)) ∧ w = w' := by
  obtain ⟨R, hR⟩ : ∃ R, knownB k = R := ⟨_, rfl⟩
  have HR := Lib.hid hR
  rw [hR]
  clear hR
  by_cases h0 : 0 ≤ k
  · go_enter Tryz.func194, Tryz.ntmps194
    go_wp2
    go_ret
    exact ⟨by rw [← HR.out]; unfold knownB; simp [h0], rfl⟩
  · go_enter Tryz.func194, Tryz.ntmps194
    go_wp2
    go_ret
    exact ⟨by rw [← HR.out]; unfold knownB; simp; omega, rfl⟩
theorem rsuits_any (k : Int) (v : Vl) (w : World) : Calls Tryz.prog 193 #[.int .i64 k, vlV v] w fun e w' => e = .returned (.bool (sutB k v)) ∧ Below w.heap.size w w' := by
  obtain ⟨R, hR⟩ : ∃ R, sutB k v = R := ⟨_, rfl⟩
  have HR := Lib.hid hR
  rw [hR]
  clear hR
  unfold vlV
  by_cases h0 : v.kind = 0
  · have h0' : (v.kind == 0) = true := by simpa using h0
    clear h0
    go_enter Tryz.func193, Tryz.ntmps193
    go_wp2
    go_ret
    exact ⟨by rw [← HR.out]; unfold sutB; have h1 : v.kind = 0 := by simpa using h0'
              simp [h1], bel_one _ _⟩
  · have h0' : (v.kind == 0) = false := by simpa using h0
    have H0 := Lib.hid h0
    clear h0
    by_cases h1 : k = 0
    · subst h1
      go_enter Tryz.func193, Tryz.ntmps193
      go_wp2
      go_ret
      exact ⟨by rw [← HR.out]; simp [sutB], bel_one _ _⟩
    · have h1' : (k == 0) = false := by simpa using h1
      by_cases h2 : k = 4
      · subst h2
        go_enter Tryz.func193, Tryz.ntmps193
        go_wp2
        go_ret
        exact ⟨by rw [← HR.out]; simp [sutB], bel_one _ _⟩
      · have h2' : (k == 4) = false := by simpa using h2
        have H1 := Lib.hid h1
        have H2 := Lib.hid h2
        clear h1 h2
        go_enter Tryz.func193, Tryz.ntmps193
        go_wp2
        go_ret
        exact ⟨by rw [← HR.out]; simp [sutB, H0.out, H1.out, H2.out]; by_cases h : k = 5 <;> simp [h], bel_one _ _⟩
/-- at a known aggregate -/
theorem asuits_any (k : Int) (v : Vl) (w : World) (hk : knownB k = true) : Calls Tryz.prog 218 #[.int .i64 k, vlV v] w fun e w' => e = .returned (.bool (sutB k v)) ∧ Below w.heap.size w w' := by
  obtain ⟨R, hR⟩ : ∃ R, sutB k v = R := ⟨_, rfl⟩
  have HR := Lib.hid hR
  rw [hR]
  have hk' : 0 ≤ k ∧ k ≤ 5 := by simpa [knownB] using hk
  clear hR hk
  unfold vlV
  by_cases h0 : v.kind = 0
  · have h0' : (v.kind == 0) = true := by simpa using h0
    have H0 := Lib.hid h0
    clear h0 hk'
    go_enter Tryz.func218, Tryz.ntmps218
    go_wp2
    go_ret
    exact ⟨by rw [← HR.out]; simp [sutB, H0.out], bel_one _ _⟩
  · have h0' : (v.kind == 0) = false := by simpa using h0
    have H0 := Lib.hid h0
    clear h0
    have hc : k = 0 ∨ k = 1 ∨ k = 2 ∨ k = 3 ∨ k = 4 ∨ k = 5 := by omega
    clear hk'
    rcases hc with rfl | rfl | rfl | rfl | rfl | rfl <;>
    · go_enter Tryz.func218, Tryz.ntmps218
      go_wp2
      go_ret
      exact ⟨by rw [← HR.out]; simp [sutB, H0.out], bel_one _ _⟩
theorem rwrong_any (k : Int) (v : Vl) (w : World) : Calls Tryz.prog 210 #[.int .i64 k, vlV v] w fun e w' => e = .returned (.int .i64 (wrongE k v)) ∧ Below w.heap.size w w' := by
  have HV := Lib.hid (rvcheck_any v)
  have HU := Lib.hid (rsuits_any k v)
  obtain ⟨R, hR⟩ : ∃ R, wrongE k v = R := ⟨_, rfl⟩
  have HR := Lib.hid hR
  rw [hR]
  unfold vlV at HV HU ⊢
  obtain ⟨z, hz⟩ : ∃ z, valE v = z := ⟨_, rfl⟩
  obtain ⟨b, hb⟩ : ∃ b, sutB k v = b := ⟨_, rfl⟩
  rw [hz] at HV
  rw [hb] at HU
  have HZ := Lib.hid hz
  have HB := Lib.hid hb
  clear hR hz hb
  by_cases hz0 : z = 0
  · subst hz0
    cases b <;>
    · go_enter Tryz.func210, Tryz.ntmps210
      go_wp2_with fail
      refine calls_gen fun W9 e9 => ?_
      have y0 : W9.cell? ⟨w.heap.size, 0, none⟩ = some (.int .i64 v.kind) := by rw [e9]; go_simp
      have y1 : W9.cell? ⟨w.heap.size, 1, none⟩ = some (.int .i64 v.num) := by rw [e9]; go_simp
      have y2 : W9.cell? ⟨w.heap.size, 2, none⟩ = some (.string v.text) := by rw [e9]; go_simp
      have hb9 : Below w.heap.size w W9 := by rw [e9]; exact (by repeat (first | exact Below.refl _ _ | assumption | refine Below.drew ?_ | refine bel_al ?_ _ | refine bel_set ?_ (by omega) _ | refine bel_tr ?_ (by assumption)))
      clear e9
      refine (HV.out W9).mono ?_
      rintro e w1 ⟨rfl, hb1⟩
      replace y0 := cell_stays hb1 y0
      replace y1 := cell_stays hb1 y1
      replace y2 := cell_stays hb1 y2
      have HB1 := Lib.hid (bel_tr hb9 hb1)
      clear hb9 hb1
      go_wp2_with (go_at_call 193; refine (HU.out _).mono ?_; rintro e w2 ⟨rfl, hb2⟩)
      go_ret
      exact ⟨ret_i (by rw [← HR.out]; unfold wrongE; rw [HZ.out, HB.out]; rfl), bel_tr HB1.out hb2⟩
  · have hz' : (z != 0) = true := by simpa using hz0
    have H0 := Lib.hid hz0
    clear hz0
    go_enter Tryz.func210, Tryz.ntmps210
    go_wp2_with fail
    refine calls_gen fun W9 e9 => ?_
    have hb9 : Below w.heap.size w W9 := by rw [e9]; exact (by repeat (first | exact Below.refl _ _ | assumption | refine Below.drew ?_ | refine bel_al ?_ _ | refine bel_set ?_ (by omega) _ | refine bel_tr ?_ (by assumption)))
    clear e9
    refine (HV.out W9).mono ?_
    rintro e w1 ⟨rfl, hb1⟩
    have HB1 := Lib.hid (bel_tr hb9 hb1)
    clear hb9 hb1
    go_wp2_with fail
    go_ret
    exact ⟨ret_i (by rw [← HR.out]; unfold wrongE; rw [HZ.out, if_pos H0.out]), HB1.out⟩
end Go.Proofs.YtclpglgigpjfoaaGreatDoor
namespace Go.Proofs.YtclpglgigpjfoaaGreatDoor
open Go.RowKit

def vlEq (a b : Vl) : Bool := a.kind == b.kind && (a.num == b.num && a.text.toList == b.text.toList)
theorem vlEq_self (a : Vl) : vlEq a a = true := by simp [vlEq]
theorem vl_neq2 (a b : Vl) (W : World) : (binOp .neq 88 (vlV a) (vlV b)).run Tryz.prog W = .ok (.bool (!vlEq a b)) W := by
  have u3 := Tryz.underlying3
  have a3 := Tryz.isAgg3
  have z3 := Tryz.sizeOf3
  have u9 : Tryz.prog.underlying 9 = some .string := by kernel_rfl
  have a9 := Tryz.isAgg9
  have z9 := Tryz.sizeOf9
  have hS : Tryz.prog.underlying 88 = some (.struct (Tryz.prog.fieldsOf 88)) := by kernel_rfl
  have hp : Tryz.prog.stoodInHeld 88 = false := by kernel_rfl
  unfold vlV
  rw [run_neq_struct, show (10000 : Nat) = 9999 + 1 from rfl, run_equalIn_agg W 9999 88 _ _ hS hp]
  simp only [Program.fieldsOf, Tryz.underlying88]
  go_simp
  by_cases h1 : a.kind = b.kind <;> by_cases h2 : a.num = b.num <;> by_cases h3 : a.text.toList = b.text.toList <;> simp [vlEq, h1, h2, h3]
def vlsEq : List Vl → List Vl → Bool
  | [], [] => true
  | a :: l, b :: m => vlEq a b && vlsEq l m
  | _, _ => false
theorem vlsEq_self : ∀ l, vlsEq l l = true
  | [] => rfl
  | a :: l => by simp [vlsEq, vlEq_self, vlsEq_self l]
theorem vlsEq_len : ∀ {l m : List Vl}, l.length ≠ m.length → vlsEq l m = false
  | [], [], h => absurd rfl h
  | [], _ :: _, _ => rfl
  | _ :: _, [], _ => rfl
  | a :: l, b :: m, h => by simp [vlsEq, vlsEq_len (l := l) (m := m) (by simpa using h)]
theorem vlsEq_at {l m : List Vl} {k : Nat} {x y : Vl} (hx : l[k]? = some x) (hy : m[k]? = some y) : vlsEq (l.drop k) (m.drop k) = (vlEq x y && vlsEq (l.drop (k + 1)) (m.drop (k + 1))) := by
  obtain ⟨h1, rfl⟩ := List.getElem?_eq_some_iff.1 hx
  obtain ⟨h2, rfl⟩ := List.getElem?_eq_some_iff.1 hy
  rw [List.drop_eq_getElem_cons h1, List.drop_eq_getElem_cons h2]
  rfl

set_option maxRecDepth 100000 in
set_option maxHeartbeats 1000000 in
theorem rvsame_any (l m : List Vl) (v1 v2 : Value) (w : World) (h1 : IsVls w v1 l) (h2 : IsVls w v2 m) :
    Calls Tryz.prog 45 #[v1, v2] w fun e w' => e = .returned (.bool (vlsEq l m)) ∧ Below w.heap.size w w' := by
  obtain ⟨A1, c1, rfl, l1, m1, a1⟩ := h1
  obtain ⟨A2, c2, rfl, l2, m2, a2⟩ := h2
  have hn := len_i64 l1 m1
  have hn2 := len_i64 l2 m2
  have HA1 := Lib.hid a1
  have HA2 := Lib.hid a2
  clear a1 a2 l1 l2 m1 m2
  by_cases hlen : l.length = m.length
  case neg =>
    have hle : ¬ (l.length : Int) = (m.length : Int) := by omega
    rw [vlsEq_len hlen]
    clear hlen
    go_enter Tryz.func45, Tryz.ntmps45
    go_wp2
    go_ret
    exact ⟨rfl, Below.refl _ _⟩
  have HLEN := Lib.hid hlen
  rw [← hlen]
  obtain ⟨R, hR⟩ : ∃ R, vlsEq l m = R := ⟨_, rfl⟩
  have HR := Lib.hid hR
  rw [hR]
  clear hlen hn2 hR
  go_enter Tryz.func45, Tryz.ntmps45
  go_wp2
  go_loopw [5] (fun i wr => ∃ k : Nat, k ≤ l.length ∧ i = .int .i64 k ∧ Hid (vlsEq (l.drop k) (m.drop k) = R) ∧ Below w.heap.size w wr) (fun i _ => l.length - (intOf i).toNat)
  case atStart => exact ⟨0, Nat.zero_le _, rfl, Lib.hid HR.out, Below.refl _ _⟩
  case round =>
    obtain ⟨k, hk, rfl, hi, hb⟩ := hrel
    by_cases hlt : k < l.length
    · have hkm : k < m.length := by rw [← HLEN.out]; exact hlt
      obtain ⟨b1, o1, rfl, p0, p1, p2⟩ := HA1.out k l[k] (List.getElem?_eq_getElem hlt)
      obtain ⟨b2, o2, rfl, q0, q1, q2⟩ := HA2.out k m[k] (List.getElem?_eq_getElem hkm)
      have hg1 := Lib.hid (List.getElem?_eq_getElem hlt)
      have hg2 := Lib.hid (List.getElem?_eq_getElem hkm)
      replace p0 := cell_stays hb p0
      replace p1 := cell_stays hb p1
      replace p2 := cell_stays hb p2
      replace q0 := cell_stays hb q0
      replace q1 := cell_stays hb q1
      replace q2 := cell_stays hb q2
      have hk' : (k : Int) < (l.length : Int) := by omega
      obtain ⟨x, hx⟩ : ∃ x, x = l[k] := ⟨_, rfl⟩
      obtain ⟨y, hy⟩ : ∃ y, y = m[k] := ⟨_, rfl⟩
      rw [← hx] at p0 p1 p2 hg1
      rw [← hy] at q0 q1 q2 hg2
      clear hx hy hkm
      obtain ⟨r, hr⟩ : ∃ r, vlEq x y = r := ⟨_, rfl⟩
      have HV := Lib.hid hr
      have he : ∀ W, (binOp .neq 88 (vlV x) (vlV y)).run Tryz.prog W = .ok (.bool (!r)) W := fun W => by rw [vl_neq2, hr]
      unfold vlV at he
      clear hr
      go_wp2_with fail
      refine wp_region_F (fun W => W.cell? ⟨b1, o1 + k * 3, none⟩ = some (.int .i64 x.kind) ∧ W.cell? ⟨b1, o1 + k * 3 + 1, none⟩ = some (.int .i64 x.num) ∧ W.cell? ⟨b1, o1 + k * 3 + 2, none⟩ = some (.string x.text) ∧ W.cell? ⟨b2, o2 + k * 3, none⟩ = some (.int .i64 y.kind) ∧ W.cell? ⟨b2, o2 + k * 3 + 1, none⟩ = some (.int .i64 y.num) ∧ W.cell? ⟨b2, o2 + k * 3 + 2, none⟩ = some (.string y.text)) (by repeat (first | exact grows_cell _ _ _ | exact grows_true | refine grows_and ?_ ?_)) (by kernel_rfl) (by kernel_rfl) ?hF ?_; (case hF => (first | exact ⟨‹_›, ‹_›⟩ | (go_simp; done) | (simp [*]; done) | (repeat' (first | (refine And.intro ?_ ?_) | (go_simp; done) | exact cell_stays (bel_al (Below.refl _ _) _) (by assumption) | assumption)))); intro hne hxx; have hG : Hid (Grows (fun W => W.cell? ⟨b1, o1 + k * 3, none⟩ = some (.int .i64 x.kind) ∧ W.cell? ⟨b1, o1 + k * 3 + 1, none⟩ = some (.int .i64 x.num) ∧ W.cell? ⟨b1, o1 + k * 3 + 2, none⟩ = some (.string x.text) ∧ W.cell? ⟨b2, o2 + k * 3, none⟩ = some (.int .i64 y.kind) ∧ W.cell? ⟨b2, o2 + k * 3 + 1, none⟩ = some (.int .i64 y.num) ∧ W.cell? ⟨b2, o2 + k * 3 + 2, none⟩ = some (.string y.text))) := (by repeat (first | exact grows_cell _ _ _ | exact grows_true | refine grows_and ?_ ?_)); (repeat (go_big_quiet_step (fail))); clear hG hxx hne; refine wpQuiet_nil ?_; rintro wq ⟨⟨w', hb', hF'⟩, rfl⟩
      clear hF' he
      cases r with
      | true =>
        go_wp2_with fail
        go_roundw
        case rel =>
          refine ⟨k + 1, by omega, by go_num, Lib.hid ?_, bel_tr hb hb'⟩
          have h := hi.out
          rw [vlsEq_at hg1.out hg2.out, HV.out, Bool.true_and] at h
          exact h
        case measure => simp [intOf]; omega
      | false =>
        have hr0 : R = false := by
          have h := hi.out
          rw [vlsEq_at hg1.out hg2.out, HV.out, Bool.false_and] at h
          exact h.symm
        subst hr0
        go_wp2_with fail
        go_ret
        exact ⟨rfl, bel_tr hb hb'⟩
    · have hr1 : R = true := by
        have h := hi.out
        rw [List.drop_of_length_le (by omega), List.drop_of_length_le (by have := HLEN.out; omega)] at h
        exact h.symm
      subst hr1
      have hk' : ¬ (k : Int) < (l.length : Int) := by omega
      go_wp2
      go_ret
      exact ⟨rfl, hb⟩

def evEq (x y : Evt) : Bool := refEq (eRef x) (eRef y) && (decide (x.ty = y.ty) && vlsEq x.vals y.vals)
theorem evEq_self (x : Evt) : evEq x x = true := by simp [evEq, refEq, vlsEq_self]
set_option maxRecDepth 100000 in
set_option maxHeartbeats 1000000 in
theorem requal_any (x y : Evt) (v1 v2 : Value) (w : World) (h1 : IsVls w v1 x.vals) (h2 : IsVls w v2 y.vals) :
    Calls Tryz.prog 75 #[evtV x v1, evtV y v2] w fun e w' => e = .returned (.bool (evEq x y)) ∧ Below w.heap.size w w' := by
  have HSM := Lib.hid (fun W (hb : Below w.heap.size w W) => rvsame_any x.vals y.vals v1 v2 W (h1.stays vlAt_stays hb) (h2.stays vlAt_stays hb))
  obtain ⟨A1, c1, rfl, -⟩ := h1
  obtain ⟨A2, c2, rfl, -⟩ := h2
  unfold evtV evEq
  obtain ⟨r, hr⟩ : ∃ r, refEq (eRef x) (eRef y) = r := ⟨_, rfl⟩
  have he : ∀ W, (binOp .eql 74 (refV (eRef x)) (refV (eRef y))).run Tryz.prog W = .ok (.bool r) W := fun W => by rw [ref_eql, hr]
  unfold refV eRef at he
  rw [hr]
  clear hr
  obtain ⟨r3, hr3⟩ : ∃ r3, vlsEq x.vals y.vals = r3 := ⟨_, rfl⟩
  rw [hr3] at HSM ⊢
  clear hr3
  cases r
  · go_enter Tryz.func75, Tryz.ntmps75
    go_wp2_with fail
    refine wp_region_F (fun W => W.cell? ⟨w.heap.size, 0, none⟩ = some (.int .i64 x.src) ∧ W.cell? ⟨w.heap.size, 1, none⟩ = some (.int .i64 x.sq) ∧ W.cell? ⟨w.heap.size, 2, none⟩ = some (.int .i64 x.ty) ∧ W.cell? ⟨w.heap.size, 3, none⟩ = some (.int .i64 x.tm) ∧ W.cell? ⟨w.heap.size, 4, none⟩ = some (.slice A1 x.vals.length c1) ∧ W.cell? ⟨w.heap.size + 1, 0, none⟩ = some (.int .i64 y.src) ∧ W.cell? ⟨w.heap.size + 1, 1, none⟩ = some (.int .i64 y.sq) ∧ W.cell? ⟨w.heap.size + 1, 2, none⟩ = some (.int .i64 y.ty) ∧ W.cell? ⟨w.heap.size + 1, 3, none⟩ = some (.int .i64 y.tm) ∧ W.cell? ⟨w.heap.size + 1, 4, none⟩ = some (.slice A2 y.vals.length c2)) (by repeat (first | exact grows_cell _ _ _ | exact grows_true | refine grows_and ?_ ?_)) (by kernel_rfl) (by kernel_rfl) ?hF ?_; (case hF => (first | exact ⟨‹_›, ‹_›⟩ | (go_simp; done) | (simp [*]; done) | (repeat' (first | (refine And.intro ?_ ?_) | (go_simp; done) | exact cell_stays (bel_al (Below.refl _ _) _) (by assumption) | assumption)))); intro hne hxx; have hG : Hid (Grows (fun W => W.cell? ⟨w.heap.size, 0, none⟩ = some (.int .i64 x.src) ∧ W.cell? ⟨w.heap.size, 1, none⟩ = some (.int .i64 x.sq) ∧ W.cell? ⟨w.heap.size, 2, none⟩ = some (.int .i64 x.ty) ∧ W.cell? ⟨w.heap.size, 3, none⟩ = some (.int .i64 x.tm) ∧ W.cell? ⟨w.heap.size, 4, none⟩ = some (.slice A1 x.vals.length c1) ∧ W.cell? ⟨w.heap.size + 1, 0, none⟩ = some (.int .i64 y.src) ∧ W.cell? ⟨w.heap.size + 1, 1, none⟩ = some (.int .i64 y.sq) ∧ W.cell? ⟨w.heap.size + 1, 2, none⟩ = some (.int .i64 y.ty) ∧ W.cell? ⟨w.heap.size + 1, 3, none⟩ = some (.int .i64 y.tm) ∧ W.cell? ⟨w.heap.size + 1, 4, none⟩ = some (.slice A2 y.vals.length c2))) := (by repeat (first | exact grows_cell _ _ _ | exact grows_true | refine grows_and ?_ ?_)); (repeat (go_big_quiet_step ((go_at_call 37; exact cls_call hG (rRef_bel _ _ _ _ _ _ _ _))))); clear hG hxx hne; refine wpQuiet_nil ?_; rintro wq ⟨⟨w', hb', hF'⟩, rfl⟩
    clear hF'
    go_wp2_with fail
    go_ret
    exact ⟨rfl, bel_tr (bel_tr (bel_one _ _) (bel_one _ _)) hb'⟩
  · by_cases hty : x.ty = y.ty
    · have hd : decide (x.ty = y.ty) = true := by simpa using hty
      rw [hd, ← hty]
      clear hd hty
      go_enter Tryz.func75, Tryz.ntmps75
      go_wp2_with fail
      refine wp_region_F (fun W => W.cell? ⟨w.heap.size, 0, none⟩ = some (.int .i64 x.src) ∧ W.cell? ⟨w.heap.size, 1, none⟩ = some (.int .i64 x.sq) ∧ W.cell? ⟨w.heap.size, 2, none⟩ = some (.int .i64 x.ty) ∧ W.cell? ⟨w.heap.size, 3, none⟩ = some (.int .i64 x.tm) ∧ W.cell? ⟨w.heap.size, 4, none⟩ = some (.slice A1 x.vals.length c1) ∧ W.cell? ⟨w.heap.size + 1, 0, none⟩ = some (.int .i64 y.src) ∧ W.cell? ⟨w.heap.size + 1, 1, none⟩ = some (.int .i64 y.sq) ∧ W.cell? ⟨w.heap.size + 1, 2, none⟩ = some (.int .i64 x.ty) ∧ W.cell? ⟨w.heap.size + 1, 3, none⟩ = some (.int .i64 y.tm) ∧ W.cell? ⟨w.heap.size + 1, 4, none⟩ = some (.slice A2 y.vals.length c2)) (by repeat (first | exact grows_cell _ _ _ | exact grows_true | refine grows_and ?_ ?_)) (by kernel_rfl) (by kernel_rfl) ?hF ?_; (case hF => (first | exact ⟨‹_›, ‹_›⟩ | (go_simp; done) | (simp [*]; done) | (repeat' (first | (refine And.intro ?_ ?_) | (go_simp; done) | exact cell_stays (bel_al (Below.refl _ _) _) (by assumption) | assumption)))); intro hne hxx; have hG : Hid (Grows (fun W => W.cell? ⟨w.heap.size, 0, none⟩ = some (.int .i64 x.src) ∧ W.cell? ⟨w.heap.size, 1, none⟩ = some (.int .i64 x.sq) ∧ W.cell? ⟨w.heap.size, 2, none⟩ = some (.int .i64 x.ty) ∧ W.cell? ⟨w.heap.size, 3, none⟩ = some (.int .i64 x.tm) ∧ W.cell? ⟨w.heap.size, 4, none⟩ = some (.slice A1 x.vals.length c1) ∧ W.cell? ⟨w.heap.size + 1, 0, none⟩ = some (.int .i64 y.src) ∧ W.cell? ⟨w.heap.size + 1, 1, none⟩ = some (.int .i64 y.sq) ∧ W.cell? ⟨w.heap.size + 1, 2, none⟩ = some (.int .i64 x.ty) ∧ W.cell? ⟨w.heap.size + 1, 3, none⟩ = some (.int .i64 y.tm) ∧ W.cell? ⟨w.heap.size + 1, 4, none⟩ = some (.slice A2 y.vals.length c2))) := (by repeat (first | exact grows_cell _ _ _ | exact grows_true | refine grows_and ?_ ?_)); (repeat (go_big_quiet_step (first | (go_at_call 37; exact cls_call hG (rRef_bel _ _ _ _ _ _ _ _)) | (go_at_call 45; exact cls_callB hG (fun W hW => HSM.out W (bel_tr (bel_tr (bel_one _ _) (bel_one _ _)) hW)))))); clear hG hxx hne; refine wpQuiet_nil ?_; rintro wq ⟨⟨w', hb', hF'⟩, rfl⟩
      clear hF'
      go_wp2_with fail
      go_ret
      exact ⟨by simp, bel_tr (bel_tr (bel_one _ _) (bel_one _ _)) hb'⟩
    · have hd : decide (x.ty = y.ty) = false := by simpa using hty
      rw [hd]
      have hty' : (x.ty == y.ty) = false := by simpa using hty
      clear hd hty
      go_enter Tryz.func75, Tryz.ntmps75
      go_wp2_with fail
      refine wp_region_F (fun W => W.cell? ⟨w.heap.size, 0, none⟩ = some (.int .i64 x.src) ∧ W.cell? ⟨w.heap.size, 1, none⟩ = some (.int .i64 x.sq) ∧ W.cell? ⟨w.heap.size, 2, none⟩ = some (.int .i64 x.ty) ∧ W.cell? ⟨w.heap.size, 3, none⟩ = some (.int .i64 x.tm) ∧ W.cell? ⟨w.heap.size, 4, none⟩ = some (.slice A1 x.vals.length c1) ∧ W.cell? ⟨w.heap.size + 1, 0, none⟩ = some (.int .i64 y.src) ∧ W.cell? ⟨w.heap.size + 1, 1, none⟩ = some (.int .i64 y.sq) ∧ W.cell? ⟨w.heap.size + 1, 2, none⟩ = some (.int .i64 y.ty) ∧ W.cell? ⟨w.heap.size + 1, 3, none⟩ = some (.int .i64 y.tm) ∧ W.cell? ⟨w.heap.size + 1, 4, none⟩ = some (.slice A2 y.vals.length c2)) (by repeat (first | exact grows_cell _ _ _ | exact grows_true | refine grows_and ?_ ?_)) (by kernel_rfl) (by kernel_rfl) ?hF ?_; (case hF => (first | exact ⟨‹_›, ‹_›⟩ | (go_simp; done) | (simp [*]; done) | (repeat' (first | (refine And.intro ?_ ?_) | (go_simp; done) | exact cell_stays (bel_al (Below.refl _ _) _) (by assumption) | assumption)))); intro hne hxx; have hG : Hid (Grows (fun W => W.cell? ⟨w.heap.size, 0, none⟩ = some (.int .i64 x.src) ∧ W.cell? ⟨w.heap.size, 1, none⟩ = some (.int .i64 x.sq) ∧ W.cell? ⟨w.heap.size, 2, none⟩ = some (.int .i64 x.ty) ∧ W.cell? ⟨w.heap.size, 3, none⟩ = some (.int .i64 x.tm) ∧ W.cell? ⟨w.heap.size, 4, none⟩ = some (.slice A1 x.vals.length c1) ∧ W.cell? ⟨w.heap.size + 1, 0, none⟩ = some (.int .i64 y.src) ∧ W.cell? ⟨w.heap.size + 1, 1, none⟩ = some (.int .i64 y.sq) ∧ W.cell? ⟨w.heap.size + 1, 2, none⟩ = some (.int .i64 y.ty) ∧ W.cell? ⟨w.heap.size + 1, 3, none⟩ = some (.int .i64 y.tm) ∧ W.cell? ⟨w.heap.size + 1, 4, none⟩ = some (.slice A2 y.vals.length c2))) := (by repeat (first | exact grows_cell _ _ _ | exact grows_true | refine grows_and ?_ ?_)); (repeat (go_big_quiet_step ((go_at_call 37; exact cls_call hG (rRef_bel _ _ _ _ _ _ _ _))))); clear hG hxx hne; refine wpQuiet_nil ?_; rintro wq ⟨⟨w', hb', hF'⟩, rfl⟩
      clear hF'
      go_wp2_with fail
      go_ret
      exact ⟨by simp, bel_tr (bel_tr (bel_one _ _) (bel_one _ _)) hb'⟩

set_option maxRecDepth 100000 in
set_option maxHeartbeats 1000000 in
theorem rhas_any (l : List Evt) (x : Evt) (v u : Value) (w : World) (hl : IsEvts w v l) (hu : IsVls w u x.vals) :
    Calls Tryz.prog 38 #[v, evtV x u] w fun e w' => e = .returned (.bool (l.any fun y => evEq y x)) ∧ Below w.heap.size w w' := by
  obtain ⟨A1, c1, rfl, l1, m1, a1⟩ := hl
  have hn := len_i64 l1 m1
  have HA1 := Lib.hid a1
  have HU := Lib.hid hu
  obtain ⟨A3, c3, rfl, -⟩ := hu
  obtain ⟨R, hR⟩ : ∃ R, (l.any fun y => evEq y x) = R := ⟨_, rfl⟩
  have HR := Lib.hid hR
  rw [hR]
  clear a1 l1 m1 hR
  unfold evtV
  go_enter Tryz.func38, Tryz.ntmps38
  go_wp2_with fail
  refine wp_gen fun w1 e1 => ?_
  have x0 : w1.cell? ⟨w.heap.size, 0, none⟩ = some (.int .i64 x.src) := by rw [e1]; go_simp
  have x1 : w1.cell? ⟨w.heap.size, 1, none⟩ = some (.int .i64 x.sq) := by rw [e1]; go_simp
  have x2 : w1.cell? ⟨w.heap.size, 2, none⟩ = some (.int .i64 x.ty) := by rw [e1]; go_simp
  have x3 : w1.cell? ⟨w.heap.size, 3, none⟩ = some (.int .i64 x.tm) := by rw [e1]; go_simp
  have x4 : w1.cell? ⟨w.heap.size, 4, none⟩ = some (.slice A3 x.vals.length c3) := by rw [e1]; go_simp
  have hb1 : Below w.heap.size w w1 := by rw [e1]; exact (by repeat (first | exact Below.refl _ _ | assumption | refine Below.drew ?_ | refine bel_al ?_ _ | refine bel_set ?_ (by omega) _ | refine bel_tr ?_ (by assumption)))
  obtain ⟨B, hB⟩ : ∃ B, B = w.heap.size := ⟨_, rfl⟩
  rw [← hB] at x0 x1 x2 x3 x4 ⊢
  clear e1
  have X0 := Lib.hid x0
  have X1 := Lib.hid x1
  have X2 := Lib.hid x2
  have X3 := Lib.hid x3
  have X4 := Lib.hid x4
  have HB := Lib.hid hb1
  clear x0 x1 x2 x3 x4 hb1
  have HBB := Lib.hid hB
  clear hB
  go_loopw [5] (fun i wr => ∃ k : Nat, k ≤ l.length ∧ i = .int .i64 k ∧ Hid (((l.take k).any fun y => evEq y x) = false) ∧ Below w1.heap.size w1 wr) (fun i _ => l.length - (intOf i).toNat)
  case atStart => exact ⟨0, Nat.zero_le _, rfl, Lib.hid rfl, Below.refl _ _⟩
  case round =>
    obtain ⟨k, hk, rfl, hi, hb⟩ := hrel
    by_cases hlt : k < l.length
    · obtain ⟨b1, o1, rfl, u1, hu1, p0, p1, p2, p3, p4⟩ := HA1.out k l[k] (List.getElem?_eq_getElem hlt)
      have hb0 := bel_tr HB.out hb
      replace p0 := cell_stays hb0 p0
      replace p1 := cell_stays hb0 p1
      replace p2 := cell_stays hb0 p2
      replace p3 := cell_stays hb0 p3
      replace p4 := cell_stays hb0 p4
      have q0 := cell_stays hb X0.out
      have q1 := cell_stays hb X1.out
      have q2 := cell_stays hb X2.out
      have q3 := cell_stays hb X3.out
      have q4 := cell_stays hb X4.out
      have HU1 := Lib.hid (hu1.stays vlAt_stays hb0)
      have HU2 := Lib.hid (HU.out.stays vlAt_stays hb0)
      obtain ⟨A4, c4, rfl, -⟩ := hu1
      have hk' : (k : Int) < (l.length : Int) := by omega
      have hget := Lib.hid (List.getElem?_eq_getElem hlt)
      obtain ⟨y, hy⟩ : ∃ y, y = l[k] := ⟨_, rfl⟩
      rw [← hy] at p0 p1 p2 p3 p4 HU1 hget
      clear hy
      obtain ⟨r, hr⟩ : ∃ r, evEq y x = r := ⟨_, rfl⟩
      have HEV := Lib.hid hr
      have HEQ := Lib.hid (fun W (hb : Below wr.heap.size wr W) => requal_any y x _ _ W (HU1.out.stays vlAt_stays hb) (HU2.out.stays vlAt_stays hb))
      rw [hr] at HEQ
      clear hr
      unfold evtV at HEQ
      go_wp2_with fail
      refine wp_region_F (fun W => W.cell? ⟨b1, o1 + k * 5, none⟩ = some (.int .i64 y.src) ∧ W.cell? ⟨b1, o1 + k * 5 + 1, none⟩ = some (.int .i64 y.sq) ∧ W.cell? ⟨b1, o1 + k * 5 + 2, none⟩ = some (.int .i64 y.ty) ∧ W.cell? ⟨b1, o1 + k * 5 + 3, none⟩ = some (.int .i64 y.tm) ∧ W.cell? ⟨b1, o1 + k * 5 + 4, none⟩ = some (.slice A4 y.vals.length c4) ∧ W.cell? ⟨B, 0, none⟩ = some (.int .i64 x.src) ∧ W.cell? ⟨B, 1, none⟩ = some (.int .i64 x.sq) ∧ W.cell? ⟨B, 2, none⟩ = some (.int .i64 x.ty) ∧ W.cell? ⟨B, 3, none⟩ = some (.int .i64 x.tm) ∧ W.cell? ⟨B, 4, none⟩ = some (.slice A3 x.vals.length c3)) (by repeat (first | exact grows_cell _ _ _ | exact grows_true | refine grows_and ?_ ?_)) (by kernel_rfl) (by kernel_rfl) ?hF ?_; (case hF => (first | exact ⟨‹_›, ‹_›⟩ | (go_simp; done) | (simp [*]; done) | (repeat' (first | (refine And.intro ?_ ?_) | (go_simp; done) | exact cell_stays (bel_al (Below.refl _ _) _) (by assumption) | assumption)))); intro hne hxx; have hG : Hid (Grows (fun W => W.cell? ⟨b1, o1 + k * 5, none⟩ = some (.int .i64 y.src) ∧ W.cell? ⟨b1, o1 + k * 5 + 1, none⟩ = some (.int .i64 y.sq) ∧ W.cell? ⟨b1, o1 + k * 5 + 2, none⟩ = some (.int .i64 y.ty) ∧ W.cell? ⟨b1, o1 + k * 5 + 3, none⟩ = some (.int .i64 y.tm) ∧ W.cell? ⟨b1, o1 + k * 5 + 4, none⟩ = some (.slice A4 y.vals.length c4) ∧ W.cell? ⟨B, 0, none⟩ = some (.int .i64 x.src) ∧ W.cell? ⟨B, 1, none⟩ = some (.int .i64 x.sq) ∧ W.cell? ⟨B, 2, none⟩ = some (.int .i64 x.ty) ∧ W.cell? ⟨B, 3, none⟩ = some (.int .i64 x.tm) ∧ W.cell? ⟨B, 4, none⟩ = some (.slice A3 x.vals.length c3))) := (by repeat (first | exact grows_cell _ _ _ | exact grows_true | refine grows_and ?_ ?_)); (repeat (go_big_quiet_step ((go_at_call 75; exact cls_callB hG HEQ.out)))); clear hG hxx hne; refine wpQuiet_nil ?_; rintro wq ⟨⟨w', hb', hF'⟩, rfl⟩
      clear hF'
      have HB2 := Lib.hid (bel_tr hb0 hb')
      have HB3 := Lib.hid (bel_tr hb hb')
      clear hb0 hb'
      cases r with
      | true =>
        have hr1 : R = true := by rw [← HR.out]; exact List.any_eq_true.2 ⟨y, List.mem_of_getElem? hget.out, HEV.out⟩
        subst hr1
        go_wp2_with fail
        go_ret
        exact ⟨rfl, HB2.out⟩
      | false =>
        go_wp2_with fail
        go_roundw
        case rel => exact ⟨k + 1, by omega, by go_num, Lib.hid (by rw [take_snoc' hget.out, List.any_append, hi.out]; simp [HEV.out]), HB3.out⟩
        case measure => simp [intOf]; omega
    · have hr0 : R = false := by
        have h := hi.out
        rw [List.take_of_length_le (by omega)] at h
        rw [← HR.out, h]
      subst hr0
      have hk' : ¬ (k : Int) < (l.length : Int) := by omega
      go_wp2_with fail
      go_ret
      exact ⟨rfl, bel_tr HB.out hb⟩

set_option maxRecDepth 100000 in
set_option maxHeartbeats 1000000 in
/-- Order(Ref(a), Ref(b)) -/
theorem recov1_any (a b : Evt) (A B : Option Addr) (n c m d : Nat) (w : World) :
    Calls Tryz.prog 35 #[evtV a (.slice A n c), evtV b (.slice B m d)] w fun e w' => e = .returned (.int .i64 (refsC (eRef a) (eRef b))) ∧ Below w.heap.size w w' := by
  unfold evtV
  have HO := Lib.hid (fun W => rorder_raw a.tm a.src a.sq b.tm b.src b.sq W)
  obtain ⟨r, hr⟩ : ∃ r, refsC (eRef a) (eRef b) = r := ⟨_, rfl⟩
  unfold eRef at hr ⊢
  rw [hr] at HO ⊢
  clear hr
  go_enter Tryz.func35, Tryz.ntmps35
  go_wp2_with fail
  refine wp_region_F (fun W => W.cell? ⟨w.heap.size, 0, none⟩ = some (.int .i64 a.src) ∧ W.cell? ⟨w.heap.size, 1, none⟩ = some (.int .i64 a.sq) ∧ W.cell? ⟨w.heap.size, 2, none⟩ = some (.int .i64 a.ty) ∧ W.cell? ⟨w.heap.size, 3, none⟩ = some (.int .i64 a.tm) ∧ W.cell? ⟨w.heap.size, 4, none⟩ = some (.slice A n c) ∧ W.cell? ⟨w.heap.size + 1, 0, none⟩ = some (.int .i64 b.src) ∧ W.cell? ⟨w.heap.size + 1, 1, none⟩ = some (.int .i64 b.sq) ∧ W.cell? ⟨w.heap.size + 1, 2, none⟩ = some (.int .i64 b.ty) ∧ W.cell? ⟨w.heap.size + 1, 3, none⟩ = some (.int .i64 b.tm) ∧ W.cell? ⟨w.heap.size + 1, 4, none⟩ = some (.slice B m d)) (by repeat (first | exact grows_cell _ _ _ | exact grows_true | refine grows_and ?_ ?_)) (by kernel_rfl) (by kernel_rfl) ?hF ?_; (case hF => (first | exact ⟨‹_›, ‹_›⟩ | (go_simp; done) | (simp [*]; done) | (repeat' (first | (refine And.intro ?_ ?_) | (go_simp; done) | exact cell_stays (bel_al (Below.refl _ _) _) (by assumption) | assumption)))); intro hne hxx; have hG : Hid (Grows (fun W => W.cell? ⟨w.heap.size, 0, none⟩ = some (.int .i64 a.src) ∧ W.cell? ⟨w.heap.size, 1, none⟩ = some (.int .i64 a.sq) ∧ W.cell? ⟨w.heap.size, 2, none⟩ = some (.int .i64 a.ty) ∧ W.cell? ⟨w.heap.size, 3, none⟩ = some (.int .i64 a.tm) ∧ W.cell? ⟨w.heap.size, 4, none⟩ = some (.slice A n c) ∧ W.cell? ⟨w.heap.size + 1, 0, none⟩ = some (.int .i64 b.src) ∧ W.cell? ⟨w.heap.size + 1, 1, none⟩ = some (.int .i64 b.sq) ∧ W.cell? ⟨w.heap.size + 1, 2, none⟩ = some (.int .i64 b.ty) ∧ W.cell? ⟨w.heap.size + 1, 3, none⟩ = some (.int .i64 b.tm) ∧ W.cell? ⟨w.heap.size + 1, 4, none⟩ = some (.slice B m d))) := (by repeat (first | exact grows_cell _ _ _ | exact grows_true | refine grows_and ?_ ?_)); (repeat (go_big_quiet_step (first | (go_at_call 37; exact cls_call hG (rRef_bel _ _ _ _ _ _ _ _)) | (go_at_call 36; exact cls_callB hG (fun W _ => (HO.out W).mono fun _ _ ⟨h1, h2⟩ => ⟨h1, h2.below⟩))))); clear hG hxx hne; refine wpQuiet_nil ?_; rintro wq ⟨⟨w', hb', hF'⟩, rfl⟩
  clear hF'
  go_wp2_with fail
  go_ret
  exact ⟨rfl, bel_tr (bel_tr (bel_one _ _) (bel_one _ _)) hb'⟩

set_option maxRecDepth 100000 in
set_option maxHeartbeats 1000000 in
/-- events in order are sorted -/
theorem isSorted_any (l : List Evt) (v : Value) (w : World) (hl : IsEvts w v l) (ha : l.Pairwise fun a b => refsC (eRef a) (eRef b) < 0) :
    Calls Tryz.prog 34 #[v, .func (.func 35) #[] #[]] w fun e w' => e = .returned (.bool true) ∧ Below w.heap.size w w' := by
  obtain ⟨A1, c1, rfl, l1, m1, a1⟩ := hl
  have hn := len_i64 l1 m1
  have HA1 := Lib.hid a1
  have HP := Lib.hid ha
  clear a1 l1 m1 ha
  go_enter Tryz.func34, Tryz.ntmps34
  go_wp2_with fail
  go_loopw [5] (fun i wr => ∃ k : Nat, k ≤ l.length ∧ i = .int .i64 ((k : Int) - 1) ∧ Below w.heap.size w wr) (fun i _ => (intOf i + 1).toNat)
  case atStart => exact ⟨l.length, Nat.le_refl _, by go_num, Below.refl _ _⟩
  case round =>
    obtain ⟨k, hk, rfl, hb⟩ := hrel
    by_cases hlt : 2 ≤ k
    · obtain ⟨j, rfl⟩ : ∃ j, k = j + 2 := ⟨k - 2, by omega⟩
      have hji : ((j + 2 : Nat) : Int) - 1 = ((j + 1 : Nat) : Int) := by omega
      rw [hji]
      obtain ⟨b1, o1, rfl, u1, hu1, p0, p1, p2, p3, p4⟩ := HA1.out (j + 1) l[j + 1] (List.getElem?_eq_getElem (by omega))
      obtain ⟨b2, o2, hbo, u2, hu2, q0, q1, q2, q3, q4⟩ := HA1.out j l[j] (List.getElem?_eq_getElem (by omega))
      simp only [Option.some.injEq, Addr.mk.injEq, and_true] at hbo
      obtain ⟨rfl, rfl⟩ := hbo
      replace p0 := cell_stays hb p0
      replace p1 := cell_stays hb p1
      replace p2 := cell_stays hb p2
      replace p3 := cell_stays hb p3
      replace p4 := cell_stays hb p4
      replace q0 := cell_stays hb q0
      replace q1 := cell_stays hb q1
      replace q2 := cell_stays hb q2
      replace q3 := cell_stays hb q3
      replace q4 := cell_stays hb q4
      obtain ⟨A3, c3, rfl, -⟩ := hu1
      obtain ⟨A4, c4, rfl, -⟩ := hu2
      have hord := List.pairwise_iff_getElem.1 HP.out j (j + 1) (by omega) (by omega) (by omega)
      obtain ⟨x, hx⟩ : ∃ x, x = l[j + 1] := ⟨_, rfl⟩
      obtain ⟨y, hy⟩ : ∃ y, y = l[j] := ⟨_, rfl⟩
      rw [← hx] at p0 p1 p2 p3 p4 hord
      rw [← hy] at q0 q1 q2 q3 q4 hord
      have hanti := refsC_pc.anti (eRef x) (eRef y)
      obtain ⟨r, hr⟩ : ∃ r, refsC (eRef x) (eRef y) = r := ⟨_, rfl⟩
      have hr0 : ¬ r < 0 := by omega
      have HC : Hid (∀ W, Calls Tryz.prog 35 #[evtV x (.slice A3 x.vals.length c3), evtV y (.slice A4 y.vals.length c4)] W fun e w' => e = .returned (.int .i64 r) ∧ Below W.heap.size W w') := Lib.hid (fun W => by rw [← hr]; exact recov1_any x y A3 A4 _ c3 _ c4 W)
      unfold evtV at HC
      have hlt1 : (j : Int) + 1 < (l.length : Int) := by omega
      have hlt2 : (j : Int) < (l.length : Int) := by omega
      have hj0 : (0 : Int) < (j : Int) + 1 := by omega
      clear hx hy hanti hord hr hji
      have hb1' : (0 : Int) ≤ (j : Int) + 1 := by omega
      go_wp2_with fail
      refine wp_region_F (fun W => W.cell? ⟨b1, o1 + (j + 1) * 5, none⟩ = some (.int .i64 x.src) ∧ W.cell? ⟨b1, o1 + (j + 1) * 5 + 1, none⟩ = some (.int .i64 x.sq) ∧ W.cell? ⟨b1, o1 + (j + 1) * 5 + 2, none⟩ = some (.int .i64 x.ty) ∧ W.cell? ⟨b1, o1 + (j + 1) * 5 + 3, none⟩ = some (.int .i64 x.tm) ∧ W.cell? ⟨b1, o1 + (j + 1) * 5 + 4, none⟩ = some (.slice A3 x.vals.length c3) ∧ W.cell? ⟨b1, o1 + j * 5, none⟩ = some (.int .i64 y.src) ∧ W.cell? ⟨b1, o1 + j * 5 + 1, none⟩ = some (.int .i64 y.sq) ∧ W.cell? ⟨b1, o1 + j * 5 + 2, none⟩ = some (.int .i64 y.ty) ∧ W.cell? ⟨b1, o1 + j * 5 + 3, none⟩ = some (.int .i64 y.tm) ∧ W.cell? ⟨b1, o1 + j * 5 + 4, none⟩ = some (.slice A4 y.vals.length c4)) (by repeat (first | exact grows_cell _ _ _ | exact grows_true | refine grows_and ?_ ?_)) (by kernel_rfl) (by kernel_rfl) ?hF ?_; (case hF => (first | exact ⟨‹_›, ‹_›⟩ | (go_simp; done) | (simp [*]; done) | (repeat' (first | (refine And.intro ?_ ?_) | (go_simp; done) | exact cell_stays (bel_al (Below.refl _ _) _) (by assumption) | assumption)))); intro hne hxx; have hG : Hid (Grows (fun W => W.cell? ⟨b1, o1 + (j + 1) * 5, none⟩ = some (.int .i64 x.src) ∧ W.cell? ⟨b1, o1 + (j + 1) * 5 + 1, none⟩ = some (.int .i64 x.sq) ∧ W.cell? ⟨b1, o1 + (j + 1) * 5 + 2, none⟩ = some (.int .i64 x.ty) ∧ W.cell? ⟨b1, o1 + (j + 1) * 5 + 3, none⟩ = some (.int .i64 x.tm) ∧ W.cell? ⟨b1, o1 + (j + 1) * 5 + 4, none⟩ = some (.slice A3 x.vals.length c3) ∧ W.cell? ⟨b1, o1 + j * 5, none⟩ = some (.int .i64 y.src) ∧ W.cell? ⟨b1, o1 + j * 5 + 1, none⟩ = some (.int .i64 y.sq) ∧ W.cell? ⟨b1, o1 + j * 5 + 2, none⟩ = some (.int .i64 y.ty) ∧ W.cell? ⟨b1, o1 + j * 5 + 3, none⟩ = some (.int .i64 y.tm) ∧ W.cell? ⟨b1, o1 + j * 5 + 4, none⟩ = some (.slice A4 y.vals.length c4))) := (by repeat (first | exact grows_cell _ _ _ | exact grows_true | refine grows_and ?_ ?_)); (repeat (go_big_quiet_step ((go_at_call 35; exact cls_callB hG (fun W _ => HC.out W))))); clear hG hxx hne; refine wpQuiet_nil ?_; rintro wq ⟨⟨w', hb', hF'⟩, rfl⟩
      clear hF'
      go_wp2_with fail
      go_roundw
      case rel => exact ⟨j + 1, by omega, by go_num, bel_tr hb hb'⟩
      case measure => simp [intOf]; omega
    · have hk' : ¬ (0 : Int) < (k : Int) - 1 := by omega
      go_wp2_with fail
      go_ret
      exact ⟨rfl, hb⟩
end Go.Proofs.YtclpglgigpjfoaaGreatDoor
namespace Go.Proofs.YtclpglgigpjfoaaGreatDoor
open Go.RowKit

/-- at a known aggregate -/
theorem wrong_any (k : Int) (v : Vl) (w : World) (hk : knownB k = true) : Calls Tryz.prog 203 #[.int .i64 k, vlV v] w fun e w' => e = .returned (.int .i64 (wrongE k v)) ∧ Below w.heap.size w w' := by
  have HV := Lib.hid (vcheck_any v)
  have HU := Lib.hid (fun W => asuits_any k v W hk)
  clear hk
  obtain ⟨R, hR⟩ : ∃ R, wrongE k v = R := ⟨_, rfl⟩
  have HR := Lib.hid hR
  rw [hR]
  unfold vlV at HV HU ⊢
  obtain ⟨z, hz⟩ : ∃ z, valE v = z := ⟨_, rfl⟩
  obtain ⟨b, hb⟩ : ∃ b, sutB k v = b := ⟨_, rfl⟩
  rw [hz] at HV
  rw [hb] at HU
  have HZ := Lib.hid hz
  have HB := Lib.hid hb
  clear hR hz hb
  by_cases hz0 : z = 0
  · subst hz0
    cases b <;>
    · go_enter Tryz.func203, Tryz.ntmps203
      go_wp2_with fail
      refine calls_gen fun W9 e9 => ?_
      have y0 : W9.cell? ⟨w.heap.size, 0, none⟩ = some (.int .i64 v.kind) := by rw [e9]; go_simp
      have y1 : W9.cell? ⟨w.heap.size, 1, none⟩ = some (.int .i64 v.num) := by rw [e9]; go_simp
      have y2 : W9.cell? ⟨w.heap.size, 2, none⟩ = some (.string v.text) := by rw [e9]; go_simp
      have hb9 : Below w.heap.size w W9 := by rw [e9]; exact (by repeat (first | exact Below.refl _ _ | assumption | refine Below.drew ?_ | refine bel_al ?_ _ | refine bel_set ?_ (by omega) _ | refine bel_tr ?_ (by assumption)))
      clear e9
      refine (HV.out W9).mono ?_
      rintro e w1 ⟨rfl, hb1⟩
      replace y0 := cell_stays hb1 y0
      replace y1 := cell_stays hb1 y1
      replace y2 := cell_stays hb1 y2
      have HB1 := Lib.hid (bel_tr hb9 hb1)
      clear hb9 hb1
      go_wp2_with (go_at_call 218; refine (HU.out _).mono ?_; rintro e w2 ⟨rfl, hb2⟩)
      go_ret
      exact ⟨ret_i (by rw [← HR.out]; unfold wrongE; rw [HZ.out, HB.out]; rfl), bel_tr HB1.out hb2⟩
  · have hz' : (z != 0) = true := by simpa using hz0
    have H0 := Lib.hid hz0
    clear hz0
    go_enter Tryz.func203, Tryz.ntmps203
    go_wp2_with fail
    refine calls_gen fun W9 e9 => ?_
    have hb9 : Below w.heap.size w W9 := by rw [e9]; exact (by repeat (first | exact Below.refl _ _ | assumption | refine Below.drew ?_ | refine bel_al ?_ _ | refine bel_set ?_ (by omega) _ | refine bel_tr ?_ (by assumption)))
    clear e9
    refine (HV.out W9).mono ?_
    rintro e w1 ⟨rfl, hb1⟩
    have HB1 := Lib.hid (bel_tr hb9 hb1)
    clear hb9 hb1
    go_wp2_with fail
    go_ret
    exact ⟨ret_i (by rw [← HR.out]; unfold wrongE; rw [HZ.out, if_pos H0.out]), HB1.out⟩

def singV (k : Int) (v : Vl) : Vl := if k = 0 then zeroVl else v
def combV (k : Int) (a b : Vl) : Vl :=
  if k = 1 then ⟨0, a.num + b.num, ⟨#[]⟩⟩ else if k = 2 then ⟨0, min a.num b.num, ⟨#[]⟩⟩ else if k = 3 then ⟨0, max a.num b.num, ⟨#[]⟩⟩ else if k = 4 then a else if k = 5 then b else zeroVl
theorem single_any (k : Int) (v : Vl) (w : World) : Calls Tryz.prog 207 #[.int .i64 k, vlV v] w fun e w' => e = .returned (vlV (singV k v)) ∧ Below w.heap.size w w' := by
  unfold singV vlV
  by_cases h : k = 0
  · subst h
    rw [if_pos rfl]
    unfold zeroVl
    go_enter Tryz.func207, Tryz.ntmps207
    go_wp2
    exact bodyPost_ret (v := .agg #[.int .i64 0, .int .i64 0, .string ⟨#[]⟩]) (by simp [results, Tryz.results207, go_sem]) rfl ⟨rfl, (by repeat (first | exact Below.refl _ _ | assumption | refine Below.drew ?_ | refine bel_al ?_ _ | refine bel_set ?_ (by omega) _ | refine bel_tr ?_ (by assumption)))⟩
  · rw [if_neg h]
    have h' : (k == 0) = false := by simpa using h
    clear h
    go_enter Tryz.func207, Tryz.ntmps207
    go_wp2
    exact bodyPost_ret (v := .agg #[.int .i64 v.kind, .int .i64 v.num, .string v.text]) (by simp [results, Tryz.results207, go_sem]) rfl ⟨rfl, (by repeat (first | exact Below.refl _ _ | assumption | refine Below.drew ?_ | refine bel_al ?_ _ | refine bel_set ?_ (by omega) _ | refine bel_tr ?_ (by assumption)))⟩
theorem idx_arr {P : Program} {t e : TypeId} {n : Nat} {cs : Array Value} {j : Nat} {v : Value} (W : World) (h : P.underlying t = some (.array n e)) (hs : ∀ w, (sizeOf e).run P w = .ok 1 w) (ha : ∀ w, (isAgg e).run P w = .ok false w) (hj : j < n) (hv : cs[j]? = some v) :
    (Instr.index t (.agg cs) (.int .i64 (j : Int))).run P W = .ok v W := by
  have hj' : (0 : Int) ≤ (j : Int) ∧ (j : Int) < (n : Int) := by omega
  simp [Instr.index, asIntOf, run_underlying h, hj, part, hs, ha, hv]
set_option maxRecDepth 100000 in
set_option maxHeartbeats 4000000 in
theorem combine_any (k : Int) (a b : Vl) (w : World) (hk : knownB k = true) (ha : -2305843009213693952 ≤ a.num ∧ a.num ≤ 2305843009213693952) (hb : -2305843009213693952 ≤ b.num ∧ b.num ≤ 2305843009213693952) : Calls Tryz.prog 219 #[.int .i64 k, vlV a, vlV b] w fun e w' => e = .returned (vlV (combV k a b)) ∧ Below w.heap.size w w' := by
  have hk' : 0 ≤ k ∧ k ≤ 5 := by simpa [knownB] using hk
  have hc : k = 0 ∨ k = 1 ∨ k = 2 ∨ k = 3 ∨ k = 4 ∨ k = 5 := by omega
  obtain ⟨ha1, ha2⟩ := ha
  obtain ⟨hb1, hb2⟩ := hb
  have IX := Lib.hid (fun (j : Nat) (v : Value) (cs : Array Value) (hv : cs[j]? = some v) (hj : j < 6) (W : World) => idx_arr W Tryz.underlying263 Tryz.sizeOf262 Tryz.isAgg262 hj hv)
  clear hk' hk
  unfold vlV
  rcases hc with rfl | rfl | rfl | rfl | rfl | rfl
  · have hix := fun W => IX.out 0 _ (#[.func (.func 223) #[] #[], .func (.func 224) #[] #[.pointer (some ⟨w.heap.size, 0, none⟩), .pointer (some ⟨w.heap.size + 1, 0, none⟩)], .func (.func 225) #[] #[.pointer (some ⟨w.heap.size, 0, none⟩), .pointer (some ⟨w.heap.size + 1, 0, none⟩)], .func (.func 226) #[] #[.pointer (some ⟨w.heap.size, 0, none⟩), .pointer (some ⟨w.heap.size + 1, 0, none⟩)], .func (.func 227) #[] #[.pointer (some ⟨w.heap.size, 0, none⟩)], .func (.func 228) #[] #[.pointer (some ⟨w.heap.size + 1, 0, none⟩)]]) rfl (by decide) W
    simp only [Int.cast_ofNat_Int, combV] at hix ⊢
    go_enter Tryz.func219, Tryz.ntmps219
    go_wp2
    exact bodyPost_ret (v := .agg #[.int .i64 0, .int .i64 0, .string ⟨#[]⟩]) (by simp [results, Tryz.results219, go_sem]) rfl ⟨rfl, (by repeat (first | exact Below.refl _ _ | assumption | refine Below.drew ?_ | refine bel_al ?_ _ | refine bel_set ?_ (by omega) _ | refine bel_tr ?_ (by assumption)))⟩
  · have hix := fun W => IX.out 1 _ (#[.func (.func 223) #[] #[], .func (.func 224) #[] #[.pointer (some ⟨w.heap.size, 0, none⟩), .pointer (some ⟨w.heap.size + 1, 0, none⟩)], .func (.func 225) #[] #[.pointer (some ⟨w.heap.size, 0, none⟩), .pointer (some ⟨w.heap.size + 1, 0, none⟩)], .func (.func 226) #[] #[.pointer (some ⟨w.heap.size, 0, none⟩), .pointer (some ⟨w.heap.size + 1, 0, none⟩)], .func (.func 227) #[] #[.pointer (some ⟨w.heap.size, 0, none⟩)], .func (.func 228) #[] #[.pointer (some ⟨w.heap.size + 1, 0, none⟩)]]) rfl (by decide) W
    simp only [Int.cast_ofNat_Int, combV] at hix ⊢
    go_enter Tryz.func219, Tryz.ntmps219
    go_wp2
    exact bodyPost_ret (v := .agg #[.int .i64 0, .int .i64 (a.num + b.num), .string ⟨#[]⟩]) (by simp [results, Tryz.results219, go_sem]) rfl ⟨rfl, (by repeat (first | exact Below.refl _ _ | assumption | refine Below.drew ?_ | refine bel_al ?_ _ | refine bel_set ?_ (by omega) _ | refine bel_tr ?_ (by assumption)))⟩
  · have hix := fun W => IX.out 2 _ (#[.func (.func 223) #[] #[], .func (.func 224) #[] #[.pointer (some ⟨w.heap.size, 0, none⟩), .pointer (some ⟨w.heap.size + 1, 0, none⟩)], .func (.func 225) #[] #[.pointer (some ⟨w.heap.size, 0, none⟩), .pointer (some ⟨w.heap.size + 1, 0, none⟩)], .func (.func 226) #[] #[.pointer (some ⟨w.heap.size, 0, none⟩), .pointer (some ⟨w.heap.size + 1, 0, none⟩)], .func (.func 227) #[] #[.pointer (some ⟨w.heap.size, 0, none⟩)], .func (.func 228) #[] #[.pointer (some ⟨w.heap.size + 1, 0, none⟩)]]) rfl (by decide) W
    simp only [Int.cast_ofNat_Int, combV] at hix ⊢
    go_enter Tryz.func219, Tryz.ntmps219
    go_wp2
    exact bodyPost_ret (v := .agg #[.int .i64 0, .int .i64 (min a.num b.num), .string ⟨#[]⟩]) (by simp [results, Tryz.results219, go_sem]) rfl ⟨rfl, (by repeat (first | exact Below.refl _ _ | assumption | refine Below.drew ?_ | refine bel_al ?_ _ | refine bel_set ?_ (by omega) _ | refine bel_tr ?_ (by assumption)))⟩
  · have hix := fun W => IX.out 3 _ (#[.func (.func 223) #[] #[], .func (.func 224) #[] #[.pointer (some ⟨w.heap.size, 0, none⟩), .pointer (some ⟨w.heap.size + 1, 0, none⟩)], .func (.func 225) #[] #[.pointer (some ⟨w.heap.size, 0, none⟩), .pointer (some ⟨w.heap.size + 1, 0, none⟩)], .func (.func 226) #[] #[.pointer (some ⟨w.heap.size, 0, none⟩), .pointer (some ⟨w.heap.size + 1, 0, none⟩)], .func (.func 227) #[] #[.pointer (some ⟨w.heap.size, 0, none⟩)], .func (.func 228) #[] #[.pointer (some ⟨w.heap.size + 1, 0, none⟩)]]) rfl (by decide) W
    simp only [Int.cast_ofNat_Int, combV] at hix ⊢
    go_enter Tryz.func219, Tryz.ntmps219
    go_wp2
    exact bodyPost_ret (v := .agg #[.int .i64 0, .int .i64 (max a.num b.num), .string ⟨#[]⟩]) (by simp [results, Tryz.results219, go_sem]) rfl ⟨rfl, (by repeat (first | exact Below.refl _ _ | assumption | refine Below.drew ?_ | refine bel_al ?_ _ | refine bel_set ?_ (by omega) _ | refine bel_tr ?_ (by assumption)))⟩
  · have hix := fun W => IX.out 4 _ (#[.func (.func 223) #[] #[], .func (.func 224) #[] #[.pointer (some ⟨w.heap.size, 0, none⟩), .pointer (some ⟨w.heap.size + 1, 0, none⟩)], .func (.func 225) #[] #[.pointer (some ⟨w.heap.size, 0, none⟩), .pointer (some ⟨w.heap.size + 1, 0, none⟩)], .func (.func 226) #[] #[.pointer (some ⟨w.heap.size, 0, none⟩), .pointer (some ⟨w.heap.size + 1, 0, none⟩)], .func (.func 227) #[] #[.pointer (some ⟨w.heap.size, 0, none⟩)], .func (.func 228) #[] #[.pointer (some ⟨w.heap.size + 1, 0, none⟩)]]) rfl (by decide) W
    simp only [Int.cast_ofNat_Int, combV] at hix ⊢
    go_enter Tryz.func219, Tryz.ntmps219
    go_wp2
    exact bodyPost_ret (v := .agg #[.int .i64 a.kind, .int .i64 a.num, .string a.text]) (by simp [results, Tryz.results219, go_sem]) rfl ⟨rfl, (by repeat (first | exact Below.refl _ _ | assumption | refine Below.drew ?_ | refine bel_al ?_ _ | refine bel_set ?_ (by omega) _ | refine bel_tr ?_ (by assumption)))⟩
  · have hix := fun W => IX.out 5 _ (#[.func (.func 223) #[] #[], .func (.func 224) #[] #[.pointer (some ⟨w.heap.size, 0, none⟩), .pointer (some ⟨w.heap.size + 1, 0, none⟩)], .func (.func 225) #[] #[.pointer (some ⟨w.heap.size, 0, none⟩), .pointer (some ⟨w.heap.size + 1, 0, none⟩)], .func (.func 226) #[] #[.pointer (some ⟨w.heap.size, 0, none⟩), .pointer (some ⟨w.heap.size + 1, 0, none⟩)], .func (.func 227) #[] #[.pointer (some ⟨w.heap.size, 0, none⟩)], .func (.func 228) #[] #[.pointer (some ⟨w.heap.size + 1, 0, none⟩)]]) rfl (by decide) W
    simp only [Int.cast_ofNat_Int, combV] at hix ⊢
    go_enter Tryz.func219, Tryz.ntmps219
    go_wp2
    exact bodyPost_ret (v := .agg #[.int .i64 b.kind, .int .i64 b.num, .string b.text]) (by simp [results, Tryz.results219, go_sem]) rfl ⟨rfl, (by repeat (first | exact Below.refl _ _ | assumption | refine Below.drew ?_ | refine bel_al ?_ _ | refine bel_set ?_ (by omega) _ | refine bel_tr ?_ (by assumption)))⟩
set_option maxRecDepth 100000 in
set_option maxHeartbeats 4000000 in
theorem rcombine_any (k : Int) (a b : Vl) (w : World) (ha : -2305843009213693952 ≤ a.num ∧ a.num ≤ 2305843009213693952) (hb : -2305843009213693952 ≤ b.num ∧ b.num ≤ 2305843009213693952) : Calls Tryz.prog 211 #[.int .i64 k, vlV a, vlV b] w fun e w' => e = .returned (vlV (combV k a b)) ∧ Below w.heap.size w w' := by
  obtain ⟨ha1, ha2⟩ := ha
  obtain ⟨hb1, hb2⟩ := hb
  unfold vlV
  by_cases h1 : k = 1
  · subst h1
    simp only [combV]
    go_enter Tryz.func211, Tryz.ntmps211
    go_wp2
    exact bodyPost_ret (v := .agg #[.int .i64 0, .int .i64 (a.num + b.num), .string ⟨#[]⟩]) (by simp [results, Tryz.results211, go_sem]) rfl ⟨rfl, (by repeat (first | exact Below.refl _ _ | assumption | refine Below.drew ?_ | refine bel_al ?_ _ | refine bel_set ?_ (by omega) _ | refine bel_tr ?_ (by assumption)))⟩
  · have q1 : (k == 1) = false := by simpa using h1
    by_cases h2 : k = 2
    · subst h2
      simp only [combV]
      go_enter Tryz.func211, Tryz.ntmps211
      go_wp2
      exact bodyPost_ret (v := .agg #[.int .i64 0, .int .i64 (min a.num b.num), .string ⟨#[]⟩]) (by simp [results, Tryz.results211, go_sem]) rfl ⟨rfl, (by repeat (first | exact Below.refl _ _ | assumption | refine Below.drew ?_ | refine bel_al ?_ _ | refine bel_set ?_ (by omega) _ | refine bel_tr ?_ (by assumption)))⟩
    · have q2 : (k == 2) = false := by simpa using h2
      by_cases h3 : k = 3
      · subst h3
        simp only [combV]
        go_enter Tryz.func211, Tryz.ntmps211
        go_wp2
        exact bodyPost_ret (v := .agg #[.int .i64 0, .int .i64 (max a.num b.num), .string ⟨#[]⟩]) (by simp [results, Tryz.results211, go_sem]) rfl ⟨rfl, (by repeat (first | exact Below.refl _ _ | assumption | refine Below.drew ?_ | refine bel_al ?_ _ | refine bel_set ?_ (by omega) _ | refine bel_tr ?_ (by assumption)))⟩
      · have q3 : (k == 3) = false := by simpa using h3
        by_cases h4 : k = 4
        · subst h4
          simp only [combV]
          go_enter Tryz.func211, Tryz.ntmps211
          go_wp2
          exact bodyPost_ret (v := .agg #[.int .i64 a.kind, .int .i64 a.num, .string a.text]) (by simp [results, Tryz.results211, go_sem]) rfl ⟨rfl, (by repeat (first | exact Below.refl _ _ | assumption | refine Below.drew ?_ | refine bel_al ?_ _ | refine bel_set ?_ (by omega) _ | refine bel_tr ?_ (by assumption)))⟩
        · have q4 : (k == 4) = false := by simpa using h4
          by_cases h5 : k = 5
          · subst h5
            simp only [combV]
            go_enter Tryz.func211, Tryz.ntmps211
            go_wp2
            exact bodyPost_ret (v := .agg #[.int .i64 b.kind, .int .i64 b.num, .string b.text]) (by simp [results, Tryz.results211, go_sem]) rfl ⟨rfl, (by repeat (first | exact Below.refl _ _ | assumption | refine Below.drew ?_ | refine bel_al ?_ _ | refine bel_set ?_ (by omega) _ | refine bel_tr ?_ (by assumption)))⟩
          · have q5 : (k == 5) = false := by simpa using h5
            unfold combV
            rw [if_neg h1, if_neg h2, if_neg h3, if_neg h4, if_neg h5]
            unfold zeroVl
            clear h1 h2 h3 h4 h5
            go_enter Tryz.func211, Tryz.ntmps211
            go_wp2
            exact bodyPost_ret (v := .agg #[.int .i64 0, .int .i64 0, .string ⟨#[]⟩]) (by simp [results, Tryz.results211, go_sem]) rfl ⟨rfl, (by repeat (first | exact Below.refl _ _ | assumption | refine Below.drew ?_ | refine bel_al ?_ _ | refine bel_set ?_ (by omega) _ | refine bel_tr ?_ (by assumption)))⟩
end Go.Proofs.YtclpglgigpjfoaaGreatDoor
namespace Go.Proofs.YtclpglgigpjfoaaGreatDoor

def mergA (a b : Ac) : Ac := if a.count = 0 then b else if b.count = 0 then a else ⟨a.kind, a.count + b.count, combV a.kind a.val b.val⟩
def stepA (k : Int) (a : Ac) (v : Vl) : Ac := mergA a ⟨k, 1, singV k v⟩
structure AcOk (k : Int) (a : Ac) (i : Int) : Prop where
  kind : a.kind = k
  count : a.count = i
  none_ : i = 0 → a.val = zeroVl
  k0 : k = 0 → a.val = zeroVl
  k1 : i ≠ 0 → k = 1 → a.val.kind = 0 ∧ a.val.text = ⟨#[]⟩ ∧ -(i * 1099511627776) ≤ a.val.num ∧ a.val.num ≤ i * 1099511627776
  more : i ≠ 0 → k ≠ 0 → k ≠ 1 → valE a.val = 0 ∧ sutB k a.val = true
theorem text_nil {s : ByteArray} (h : s.size = 0) : s = ⟨#[]⟩ := by
  apply ByteArray.ext
  exact Array.size_eq_zero_iff.1 h
theorem valE_int {v : Vl} (h : valE v = 0) (h0 : v.kind = 0) : v.text = ⟨#[]⟩ ∧ -1099511627776 ≤ v.num ∧ v.num ≤ 1099511627776 := by
  unfold valE at h
  rw [h0] at h
  simp only [Int.lt_irrefl, false_or] at h
  (repeat' split at h) <;> first | omega | skip
  exact ⟨text_nil (by omega), by omega, by omega⟩
theorem valE_mk {n : Int} (h1 : -1099511627776 ≤ n) (h2 : n ≤ 1099511627776) : valE ⟨0, n, ⟨#[]⟩⟩ = 0 := by
  unfold valE
  have hs : ByteArray.size ⟨#[]⟩ = 0 := rfl
  simp only [hs]
  (repeat' split) <;> omega
theorem wrong_0 {k : Int} {v : Vl} (h : wrongE k v = 0) : valE v = 0 ∧ sutB k v = true := by
  unfold wrongE at h
  split at h
  · next h1 => exact absurd h h1
  · next h1 =>
    split at h
    · next h2 => exact ⟨by omega, h2⟩
    · exact absurd h (by decide)
theorem sut_int {k : Int} {v : Vl} (h : sutB k v = true) (h0 : k ≠ 0) (h4 : k ≠ 4) (h5 : k ≠ 5) : v.kind = 0 := by
  unfold sutB at h
  have := of_decide_eq_true h
  omega
theorem sut_mk (k : Int) {v : Vl} (h : v.kind = 0) : sutB k v = true := by
  unfold sutB
  exact decide_eq_true (.inl h)
theorem ok_start (k : Int) : AcOk k ⟨k, 0, zeroVl⟩ 0 := ⟨rfl, rfl, fun _ => rfl, fun _ => rfl, fun h => absurd rfl h, fun h => absurd rfl h⟩
theorem ok_step {k i : Int} {a : Ac} {v : Vl} (hk : knownB k = true) (h : AcOk k a i) (hi : 0 ≤ i) (hv : wrongE k v = 0) : AcOk k (stepA k a v) (i + 1) := by
  obtain ⟨v1, v2⟩ := wrong_0 hv
  have hk' : 0 ≤ k ∧ k ≤ 5 := by simpa [knownB] using hk
  have hci := h.count
  have hki := h.kind
  unfold stepA mergA
  by_cases h0 : i = 0
  · rw [if_pos (by omega)]
    subst h0
    refine ⟨rfl, rfl, fun e => absurd e (by decide), fun e => by unfold singV; rw [if_pos e], fun _ e => ?_, fun _ e1 e2 => ?_⟩
    · unfold singV
      rw [if_neg (by omega)]
      have hv0 := sut_int v2 (by omega) (by omega) (by omega)
      obtain ⟨q1, q2, q3⟩ := valE_int v1 hv0
      exact ⟨hv0, q1, by simp only; omega, by simp only; omega⟩
    · unfold singV
      rw [if_neg e1]
      exact ⟨v1, v2⟩
  · rw [if_neg (by omega), if_neg (by simp)]
    refine ⟨hki, by simp only; omega, fun e => by omega, fun e => ?_, fun _ e => ?_, fun _ e1 e2 => ?_⟩
    · simp only [hki, e, combV]
      simp
    · have q := h.k1 h0 e
      have hv0 := sut_int v2 (by omega) (by omega) (by omega)
      obtain ⟨q1, q2, q3⟩ := valE_int v1 hv0
      simp only [hki, e, combV, singV]
      simp only [if_true, show ¬ (1 : Int) = 0 by decide, if_false]
      exact ⟨trivial, trivial, by omega, by omega⟩
    · have q := h.more h0 e1 e2
      have hs : singV k v = v := by unfold singV; rw [if_neg e1]
      simp only [hki, hs]
      have hc : k = 2 ∨ k = 3 ∨ k = 4 ∨ k = 5 := by omega
      rcases hc with rfl | rfl | rfl | rfl
      · have hv0 := sut_int v2 (by decide) (by decide) (by decide)
        have ha0 := sut_int q.2 (by decide) (by decide) (by decide)
        obtain ⟨q1, q2, q3⟩ := valE_int v1 hv0
        obtain ⟨p1, p2, p3⟩ := valE_int q.1 ha0
        exact ⟨by simp only [combV]; exact valE_mk (by omega) (by omega), sut_mk _ (by simp [combV])⟩
      · have hv0 := sut_int v2 (by decide) (by decide) (by decide)
        have ha0 := sut_int q.2 (by decide) (by decide) (by decide)
        obtain ⟨q1, q2, q3⟩ := valE_int v1 hv0
        obtain ⟨p1, p2, p3⟩ := valE_int q.1 ha0
        exact ⟨by simp only [combV]; exact valE_mk (by omega) (by omega), sut_mk _ (by simp [combV])⟩
      · simpa [combV] using q
      · simpa [combV] using And.intro v1 v2
theorem ok_num {k i : Int} {a : Ac} (_hk : knownB k = true) (h : AcOk k a i) (hi : 0 ≤ i ∧ i ≤ 4096) : -2305843009213693952 ≤ a.val.num ∧ a.val.num ≤ 2305843009213693952 := by
  by_cases h0 : i = 0
  · rw [h.none_ h0]; decide
  · by_cases h1 : k = 0
    · rw [h.k0 h1]; decide
    · by_cases h2 : k = 1
      · have := h.k1 h0 h2
        omega
      · have := (h.more h0 h1 h2).1
        unfold valE at this
        (repeat' split at this) <;> omega
end Go.Proofs.YtclpglgigpjfoaaGreatDoor
namespace Go.Proofs.YtclpglgigpjfoaaGreatDoor
open Go.RowKit

theorem vl_eql (a : Vl) (W : World) : (binOp .eql 88 (vlV a) (vlV a)).run Tryz.prog W = .ok (.bool true) W := by
  have u3 := Tryz.underlying3
  have a3 := Tryz.isAgg3
  have z3 := Tryz.sizeOf3
  have u9 : Tryz.prog.underlying 9 = some .string := by kernel_rfl
  have a9 := Tryz.isAgg9
  have z9 := Tryz.sizeOf9
  have hS : Tryz.prog.underlying 88 = some (.struct (Tryz.prog.fieldsOf 88)) := by kernel_rfl
  have hp : Tryz.prog.stoodInHeld 88 = false := by kernel_rfl
  unfold vlV
  rw [run_eql_struct, show (10000 : Nat) = 9999 + 1 from rfl, run_equalIn_agg W 9999 88 _ _ hS hp]
  simp only [Program.fieldsOf, Tryz.underlying88]
  go_simp
abbrev zeroV : Value := .agg #[.int .i64 0, .int .i64 0, .string ⟨#[]⟩]
theorem acc_zero {k i : Int} {a : Ac} (h : AcOk k a i) (hz : a.val = zeroVl) : accV a = .agg #[.int .i64 k, .int .i64 i, .int .i64 0, .int .i64 0, .string ⟨#[]⟩] := by
  unfold accV
  rw [h.kind, h.count, hz]
  rfl
set_option maxRecDepth 100000 in
set_option maxHeartbeats 4000000 in
theorem acheck_ok (k i : Int) (a : Ac) (w : World) (hk : knownB k = true) (h : AcOk k a i) (hi : 0 ≤ i ∧ i ≤ 4096) :
    Calls Tryz.prog 220 #[accV a] w fun e w' => e = .returned (.int .i64 0) ∧ Below w.heap.size w w' := by
  have HK := Lib.hid hk
  have hq : ∀ W, (binOp .eql 88 (.agg #[.int .i64 0, .int .i64 0, .string ⟨#[]⟩]) (.agg #[.int .i64 0, .int .i64 0, .string ⟨#[]⟩])).run Tryz.prog W = .ok (.bool true) W := fun W => vl_eql ⟨0, 0, ⟨#[]⟩⟩ W
  obtain ⟨hi1, hi2⟩ := hi
  by_cases h0 : i = 0
  · rw [acc_zero h (h.none_ h0)]
    subst h0
    clear hi1 hi2 hk h
    go_enter Tryz.func220, Tryz.ntmps220
    go_wp2_with (go_at_call 202; refine (known_any _ _).mono ?_; rw [HK.out]; rintro e w' ⟨rfl, rfl⟩)
    go_ret
    exact ⟨rfl, bel_one _ _⟩
  have h0' : (i == 0) = false := by simpa using h0
  have hn : ¬ i < 0 := by omega
  have hx : ¬ 4096 < i := by omega
  by_cases hk0 : k = 0
  · rw [acc_zero h (h.k0 hk0)]
    subst hk0
    clear hi1 hi2 hk h h0
    go_enter Tryz.func220, Tryz.ntmps220
    go_wp2_with (go_at_call 202; refine (known_any _ _).mono ?_; rw [HK.out]; rintro e w' ⟨rfl, rfl⟩)
    go_ret
    exact ⟨rfl, bel_one _ _⟩
  have hk0' : (k == 0) = false := by simpa using hk0
  by_cases hk1 : k = 1
  · obtain ⟨q0, q1, q2, q3⟩ := h.k1 h0 hk1
    have ha : accV a = .agg #[.int .i64 1, .int .i64 i, .int .i64 0, .int .i64 a.val.num, .string ⟨#[]⟩] := by
      unfold accV
      rw [h.kind, h.count, q0, q1, hk1]
    rw [ha]
    obtain ⟨n, hn2⟩ : ∃ n, a.val.num = n := ⟨_, rfl⟩
    rw [hn2] at q2 q3 ⊢
    subst hk1
    have hw1 : IntKind.i64.wrap (i * 1099511627776) = i * 1099511627776 := by simp [IntKind.wrap, IntKind.bits, IntKind.signed]; omega
    have hw2 : IntKind.i64.wrap (-(i * 1099511627776)) = -(i * 1099511627776) := by simp [IntKind.wrap, IntKind.bits, IntKind.signed]; omega
    clear hk h h0 hk0 ha q0 q1
    go_enter Tryz.func220, Tryz.ntmps220
    go_wp2_with (go_at_call 202; refine (known_any _ _).mono ?_; rw [HK.out]; rintro e w' ⟨rfl, rfl⟩)
    go_ret
    exact ⟨rfl, bel_one _ _⟩
  · have hk1' : (k == 1) = false := by simpa using hk1
    obtain ⟨q0, q1⟩ := h.more h0 hk0 hk1
    have HV := Lib.hid (vcheck_any a.val)
    have HU := Lib.hid (fun W => asuits_any k a.val W hk)
    rw [q0] at HV
    rw [q1] at HU
    have ha : accV a = .agg #[.int .i64 k, .int .i64 i, .int .i64 a.val.kind, .int .i64 a.val.num, .string a.val.text] := by
      unfold accV
      rw [h.kind, h.count]
    rw [ha]
    unfold vlV at HV HU
    clear hk h h0 hk0 hk1 ha q0 q1
    go_enter Tryz.func220, Tryz.ntmps220
    go_wp2_with (go_at_call 202; refine (known_any _ _).mono ?_; rw [HK.out]; rintro e w' ⟨rfl, rfl⟩)
    refine calls_gen fun W9 e9 => ?_
    have y0 : W9.cell? ⟨w.heap.size, 0, none⟩ = some (.int .i64 k) := by rw [e9]; go_simp
    have y1 : W9.cell? ⟨w.heap.size, 1, none⟩ = some (.int .i64 i) := by rw [e9]; go_simp
    have y2 : W9.cell? ⟨w.heap.size, 2, none⟩ = some (.int .i64 a.val.kind) := by rw [e9]; go_simp
    have y3 : W9.cell? ⟨w.heap.size, 3, none⟩ = some (.int .i64 a.val.num) := by rw [e9]; go_simp
    have y4 : W9.cell? ⟨w.heap.size, 4, none⟩ = some (.string a.val.text) := by rw [e9]; go_simp
    have hb9 : Below w.heap.size w W9 := by rw [e9]; exact (by repeat (first | exact Below.refl _ _ | assumption | refine Below.drew ?_ | refine bel_al ?_ _ | refine bel_set ?_ (by omega) _ | refine bel_tr ?_ (by assumption)))
    clear e9
    refine (HV.out W9).mono ?_
    rintro e w1 ⟨rfl, hb1⟩
    replace y0 := cell_stays hb1 y0
    replace y1 := cell_stays hb1 y1
    replace y2 := cell_stays hb1 y2
    replace y3 := cell_stays hb1 y3
    replace y4 := cell_stays hb1 y4
    have HB1 := Lib.hid (bel_tr hb9 hb1)
    clear hb9 hb1
    go_wp2_with (go_at_call 218; refine (HU.out _).mono ?_; rintro e w2 ⟨rfl, hb2⟩)
    go_ret
    exact ⟨rfl, bel_tr HB1.out hb2⟩
set_option maxRecDepth 100000 in
set_option maxHeartbeats 4000000 in
theorem rcheckA_ok (k i : Int) (a : Ac) (w : World) (hk : knownB k = true) (h : AcOk k a i) (hi : 0 ≤ i ∧ i ≤ 4096) :
    Calls Tryz.prog 209 #[accV a] w fun e w' => e = .returned (.int .i64 0) ∧ Below w.heap.size w w' := by
  have HK := Lib.hid hk
  have hq : ∀ W, (binOp .neq 88 (.agg #[.int .i64 0, .int .i64 0, .string ⟨#[]⟩]) (.agg #[.int .i64 0, .int .i64 0, .string ⟨#[]⟩])).run Tryz.prog W = .ok (.bool false) W := fun W => vl_neq ⟨0, 0, ⟨#[]⟩⟩ W
  obtain ⟨hi1, hi2⟩ := hi
  by_cases h0 : i = 0
  · rw [acc_zero h (h.none_ h0)]
    subst h0
    clear hi1 hi2 hk h
    go_enter Tryz.func209, Tryz.ntmps209
    go_wp2_with (go_at_call 194; refine (rknown_any _ _).mono ?_; rw [HK.out]; rintro e w' ⟨rfl, rfl⟩)
    go_ret
    exact ⟨rfl, bel_one _ _⟩
  have h0' : (i == 0) = false := by simpa using h0
  have hn : ¬ i < 0 := by omega
  have hx : ¬ 4096 < i := by omega
  by_cases hk0 : k = 0
  · rw [acc_zero h (h.k0 hk0)]
    subst hk0
    clear hi1 hi2 hk h h0
    go_enter Tryz.func209, Tryz.ntmps209
    go_wp2_with (go_at_call 194; refine (rknown_any _ _).mono ?_; rw [HK.out]; rintro e w' ⟨rfl, rfl⟩)
    go_ret
    exact ⟨rfl, bel_one _ _⟩
  have hk0' : (k == 0) = false := by simpa using hk0
  by_cases hk1 : k = 1
  · obtain ⟨q0, q1, q2, q3⟩ := h.k1 h0 hk1
    have ha : accV a = .agg #[.int .i64 1, .int .i64 i, .int .i64 0, .int .i64 a.val.num, .string ⟨#[]⟩] := by
      unfold accV
      rw [h.kind, h.count, q0, q1, hk1]
    rw [ha]
    obtain ⟨n, hn2⟩ : ∃ n, a.val.num = n := ⟨_, rfl⟩
    rw [hn2] at q2 q3 ⊢
    subst hk1
    have hw1 : IntKind.i64.wrap (i * 1099511627776) = i * 1099511627776 := by simp [IntKind.wrap, IntKind.bits, IntKind.signed]; omega
    have hw2 : IntKind.i64.wrap (-(i * 1099511627776)) = -(i * 1099511627776) := by simp [IntKind.wrap, IntKind.bits, IntKind.signed]; omega
    clear hk h h0 hk0 ha q0 q1
    go_enter Tryz.func209, Tryz.ntmps209
    go_wp2_with (go_at_call 194; refine (rknown_any _ _).mono ?_; rw [HK.out]; rintro e w' ⟨rfl, rfl⟩)
    go_ret
    exact ⟨rfl, bel_one _ _⟩
  · have hk1' : (k == 1) = false := by simpa using hk1
    obtain ⟨q0, q1⟩ := h.more h0 hk0 hk1
    have HV := Lib.hid (rvcheck_any a.val)
    have HU := Lib.hid (fun W => rsuits_any k a.val W)
    rw [q0] at HV
    rw [q1] at HU
    have ha : accV a = .agg #[.int .i64 k, .int .i64 i, .int .i64 a.val.kind, .int .i64 a.val.num, .string a.val.text] := by
      unfold accV
      rw [h.kind, h.count]
    rw [ha]
    unfold vlV at HV HU
    clear hk h h0 hk0 hk1 ha q0 q1
    go_enter Tryz.func209, Tryz.ntmps209
    go_wp2_with (go_at_call 194; refine (rknown_any _ _).mono ?_; rw [HK.out]; rintro e w' ⟨rfl, rfl⟩)
    refine calls_gen fun W9 e9 => ?_
    have y0 : W9.cell? ⟨w.heap.size, 0, none⟩ = some (.int .i64 k) := by rw [e9]; go_simp
    have y1 : W9.cell? ⟨w.heap.size, 1, none⟩ = some (.int .i64 i) := by rw [e9]; go_simp
    have y2 : W9.cell? ⟨w.heap.size, 2, none⟩ = some (.int .i64 a.val.kind) := by rw [e9]; go_simp
    have y3 : W9.cell? ⟨w.heap.size, 3, none⟩ = some (.int .i64 a.val.num) := by rw [e9]; go_simp
    have y4 : W9.cell? ⟨w.heap.size, 4, none⟩ = some (.string a.val.text) := by rw [e9]; go_simp
    have hb9 : Below w.heap.size w W9 := by rw [e9]; exact (by repeat (first | exact Below.refl _ _ | assumption | refine Below.drew ?_ | refine bel_al ?_ _ | refine bel_set ?_ (by omega) _ | refine bel_tr ?_ (by assumption)))
    clear e9
    refine (HV.out W9).mono ?_
    rintro e w1 ⟨rfl, hb1⟩
    replace y0 := cell_stays hb1 y0
    replace y1 := cell_stays hb1 y1
    replace y2 := cell_stays hb1 y2
    replace y3 := cell_stays hb1 y3
    replace y4 := cell_stays hb1 y4
    have HB1 := Lib.hid (bel_tr hb9 hb1)
    clear hb9 hb1
    go_wp2_with (go_at_call 193; refine (HU.out _).mono ?_; rintro e w2 ⟨rfl, hb2⟩)
    go_ret
    exact ⟨rfl, bel_tr HB1.out hb2⟩
end Go.Proofs.YtclpglgigpjfoaaGreatDoor
namespace Go.Proofs.YtclpglgigpjfoaaGreatDoor
open Go.RowKit

def resR (k i : Int) (a : Ac) (o : Vl) : Vl × Int :=
  if wrongE k o ≠ 0 then (zeroVl, wrongE k o) else if k = 0 then (⟨0, i, ⟨#[]⟩⟩, 0) else if i = 0 ∧ k ≠ 1 then (o, 0) else (a.val, 0)
theorem three_set {w : World} {g : Nat} {t : TypeId} {u0 u1 u2 : Value} (h : w.heap[g]? = some (.cells [u0, u1, u2].toArray t (0, 0))) (a0 a1 a2 : Value) :
    (((w.setCell ⟨g, 0, none⟩ a0).setCell ⟨g, 1, none⟩ a1).setCell ⟨g, 2, none⟩ a2).heap[g]? = some (.cells [a0, a1, a2].toArray t (0, 0)) :=
  blk_set (blk_set (blk_set h 0 a0) 1 a1) 2 a2
set_option maxRecDepth 100000 in
set_option maxHeartbeats 8000000 in
theorem aresult_ok (k i : Int) (a : Ac) (o : Vl) (w : World) (hk : knownB k = true) (h : AcOk k a i) (hi : 0 ≤ i ∧ i ≤ 4096) :
    Calls Tryz.prog 208 #[accV a, vlV o] w fun e w' => e = .returned (.tuple #[vlV (resR k i a o).1, .int .i64 (resR k i a o).2]) ∧ Below w.heap.size w w' := by
  have ha : accV a = .agg #[.int .i64 k, .int .i64 i, .int .i64 a.val.kind, .int .i64 a.val.num, .string a.val.text] := by
    unfold accV
    rw [h.kind, h.count]
  have HCK := Lib.hid (fun W => acheck_ok k i a W hk h hi)
  have HWR := Lib.hid (fun W => wrong_any k o W hk)
  obtain ⟨er, her⟩ : ∃ er, wrongE k o = er := ⟨_, rfl⟩
  rw [her] at HWR
  obtain ⟨⟨RV, re⟩, hR⟩ : ∃ r, resR k i a o = r := ⟨_, rfl⟩
  have HR : Hid ((if er ≠ 0 then (zeroVl, er) else if k = 0 then (⟨0, i, ⟨#[]⟩⟩, 0) else if i = 0 ∧ k ≠ 1 then (o, 0) else (a.val, 0)) = (RV, re)) := Lib.hid (by rw [← hR, ← her]; rfl)
  rw [hR]
  clear hR
  rw [ha] at HCK ⊢
  obtain ⟨hi1, hi2⟩ := hi
  unfold vlV at HWR ⊢
  clear her hk h ha
  go_enter Tryz.func208, Tryz.ntmps208
  go_wp2_with fail
  refine calls_gen fun W9 e9 => ?_
  have x0 : W9.cell? ⟨w.heap.size, 0, none⟩ = some (.int .i64 k) := by rw [e9]; go_simp
  have x1 : W9.cell? ⟨w.heap.size, 1, none⟩ = some (.int .i64 i) := by rw [e9]; go_simp
  have x2 : W9.cell? ⟨w.heap.size, 2, none⟩ = some (.int .i64 a.val.kind) := by rw [e9]; go_simp
  have x3 : W9.cell? ⟨w.heap.size, 3, none⟩ = some (.int .i64 a.val.num) := by rw [e9]; go_simp
  have x4 : W9.cell? ⟨w.heap.size, 4, none⟩ = some (.string a.val.text) := by rw [e9]; go_simp
  have y0 : W9.cell? ⟨w.heap.size + 1, 0, none⟩ = some (.int .i64 o.kind) := by rw [e9]; go_simp
  have y1 : W9.cell? ⟨w.heap.size + 1, 1, none⟩ = some (.int .i64 o.num) := by rw [e9]; go_simp
  have y2 : W9.cell? ⟨w.heap.size + 1, 2, none⟩ = some (.string o.text) := by rw [e9]; go_simp
  have hr : W9.heap[w.heap.size + 2]? = some (.cells [.int .i64 0, .int .i64 0, .string ⟨#[]⟩].toArray 88 (0, 0)) := by rw [e9]; exact heap_new' _ _ _ (by simp)
  have hb9 : Below w.heap.size w W9 := by rw [e9]; exact (by repeat (first | exact Below.refl _ _ | assumption | refine Below.drew ?_ | refine bel_al ?_ _ | refine bel_set ?_ (by omega) _ | refine bel_tr ?_ (by assumption)))
  clear e9
  refine (HCK.out W9).mono ?_
  rintro e w1 ⟨rfl, hb1⟩
  replace x0 := cell_stays hb1 x0
  replace x1 := cell_stays hb1 x1
  replace x2 := cell_stays hb1 x2
  replace x3 := cell_stays hb1 x3
  replace x4 := cell_stays hb1 x4
  replace y0 := cell_stays hb1 y0
  replace y1 := cell_stays hb1 y1
  replace y2 := cell_stays hb1 y2
  have hr1 := (hb1.block _ (blk_lt hr)).trans hr
  have HB1 := Lib.hid (bel_tr hb9 hb1)
  have HR1 := Lib.hid hr1
  clear hb9 hb1 hr hr1
  go_wp2_with fail
  refine (HWR.out _).mono ?_
  rintro e w2 ⟨rfl, hb2⟩
  replace x0 := cell_stays hb2 x0
  replace x1 := cell_stays hb2 x1
  replace x2 := cell_stays hb2 x2
  replace x3 := cell_stays hb2 x3
  replace x4 := cell_stays hb2 x4
  replace y0 := cell_stays hb2 y0
  replace y1 := cell_stays hb2 y1
  replace y2 := cell_stays hb2 y2
  have HRR := Lib.hid ((hb2.block _ (blk_lt HR1.out)).trans HR1.out)
  have HB2 := Lib.hid (bel_tr HB1.out hb2)
  clear hb2 HR1 HB1
  have z0 : w2.cell? ⟨w.heap.size + 2, 0, none⟩ = some (.int .i64 0) := by rw [blk_cell HRR.out]; rfl
  have z1 : w2.cell? ⟨w.heap.size + 2, 1, none⟩ = some (.int .i64 0) := by rw [blk_cell HRR.out]; rfl
  have z2 : w2.cell? ⟨w.heap.size + 2, 2, none⟩ = some (.string ⟨#[]⟩) := by rw [blk_cell HRR.out]; rfl
  have f0 := blk_frozen HRR.out 0
  have f1 := blk_frozen HRR.out 1
  have f2 := blk_frozen HRR.out 2
  by_cases h0 : er = 0
  case neg =>
    obtain ⟨e1, e2⟩ : (⟨0, 0, ⟨#[]⟩⟩ : Vl) = RV ∧ er = re := by have h := HR.out; rw [if_pos h0] at h; injection h with h1 h2; exact ⟨h1, h2⟩
    subst e1 e2
    have h0' : (er != 0) = true := by simpa using h0
    clear h0
    have HQ := Lib.hid (three_set HRR.out (.int .i64 0) (.int .i64 0) (.string ⟨#[]⟩))
    have HQB := Lib.hid (bel_set (bel_set (bel_set HB2.out (b := w.heap.size + 2) (i := 0) (by omega) (.int .i64 0)) (b := w.heap.size + 2) (i := 1) (by omega) (.int .i64 0)) (b := w.heap.size + 2) (i := 2) (by omega) (.string ⟨#[]⟩))
    go_wp2_with fail
    have r0 := blk_cell HQ.out 0
    have r1 := blk_cell HQ.out 1
    have r2 := blk_cell HQ.out 2
    exact bodyPost_ret (v := .tuple #[.agg #[.int .i64 0, .int .i64 0, .string ⟨#[]⟩], .int .i64 er]) (by simp [results, Tryz.results208, go_sem, r0, r1, r2]) rfl ⟨rfl, HQB.out⟩
  have HR2 : Hid ((if k = 0 then (⟨0, i, ⟨#[]⟩⟩, 0) else if i = 0 ∧ k ≠ 1 then (o, 0) else (a.val, 0)) = (RV, re)) := Lib.hid (by have h := HR.out; rwa [if_neg (by simpa using h0)] at h)
  subst h0
  by_cases hk0 : k = 0
  · obtain ⟨e1, e2⟩ : (⟨0, i, ⟨#[]⟩⟩ : Vl) = RV ∧ 0 = re := by have h := HR2.out; rw [if_pos hk0] at h; injection h with h1 h2; exact ⟨h1, h2⟩
    subst e1 e2
    subst hk0
    have HQ := Lib.hid (three_set HRR.out (.int .i64 0) (.int .i64 i) (.string ⟨#[]⟩))
    have HQB := Lib.hid (bel_set (bel_set (bel_set HB2.out (b := w.heap.size + 2) (i := 0) (by omega) (.int .i64 0)) (b := w.heap.size + 2) (i := 1) (by omega) (.int .i64 i)) (b := w.heap.size + 2) (i := 2) (by omega) (.string ⟨#[]⟩))
    go_wp2_with fail
    have r0 := blk_cell HQ.out 0
    have r1 := blk_cell HQ.out 1
    have r2 := blk_cell HQ.out 2
    exact bodyPost_ret (v := .tuple #[.agg #[.int .i64 0, .int .i64 i, .string ⟨#[]⟩], .int .i64 0]) (by simp [results, Tryz.results208, go_sem, r0, r1, r2]) rfl ⟨rfl, HQB.out⟩
  have HR3 : Hid ((if i = 0 ∧ k ≠ 1 then (o, 0) else (a.val, 0)) = (RV, re)) := Lib.hid (by have h := HR2.out; rwa [if_neg hk0] at h)
  have hk0' : (k == 0) = false := by simpa using hk0
  by_cases hc : i = 0
  · subst hc
    by_cases hk1 : k = 1
    · subst hk1
      obtain ⟨e1, e2⟩ : a.val = RV ∧ 0 = re := by have h := HR3.out; rw [if_neg (by simp)] at h; injection h with h1 h2; exact ⟨h1, h2⟩
      subst e1 e2
      clear hk0
      have HQ := Lib.hid (three_set HRR.out (.int .i64 a.val.kind) (.int .i64 a.val.num) (.string a.val.text))
      have HQB := Lib.hid (bel_set (bel_set (bel_set HB2.out (b := w.heap.size + 2) (i := 0) (by omega) (.int .i64 a.val.kind)) (b := w.heap.size + 2) (i := 1) (by omega) (.int .i64 a.val.num)) (b := w.heap.size + 2) (i := 2) (by omega) (.string a.val.text))
      go_wp2_with fail
      have r0 := blk_cell HQ.out 0
      have r1 := blk_cell HQ.out 1
      have r2 := blk_cell HQ.out 2
      exact bodyPost_ret (v := .tuple #[.agg #[.int .i64 a.val.kind, .int .i64 a.val.num, .string a.val.text], .int .i64 0]) (by simp [results, Tryz.results208, go_sem, r0, r1, r2]) rfl ⟨rfl, HQB.out⟩
    · have hk1' : (k != 1) = true := by simpa using hk1
      obtain ⟨e1, e2⟩ : o = RV ∧ 0 = re := by have h := HR3.out; rw [if_pos ⟨rfl, hk1⟩] at h; injection h with h1 h2; exact ⟨h1, h2⟩
      subst e1 e2
      clear hk0 hk1
      have HQ := Lib.hid (three_set HRR.out (.int .i64 o.kind) (.int .i64 o.num) (.string o.text))
      have HQB := Lib.hid (bel_set (bel_set (bel_set HB2.out (b := w.heap.size + 2) (i := 0) (by omega) (.int .i64 o.kind)) (b := w.heap.size + 2) (i := 1) (by omega) (.int .i64 o.num)) (b := w.heap.size + 2) (i := 2) (by omega) (.string o.text))
      go_wp2_with fail
      have r0 := blk_cell HQ.out 0
      have r1 := blk_cell HQ.out 1
      have r2 := blk_cell HQ.out 2
      exact bodyPost_ret (v := .tuple #[.agg #[.int .i64 o.kind, .int .i64 o.num, .string o.text], .int .i64 0]) (by simp [results, Tryz.results208, go_sem, r0, r1, r2]) rfl ⟨rfl, HQB.out⟩
  · have hc' : (i == 0) = false := by simpa using hc
    obtain ⟨e1, e2⟩ : a.val = RV ∧ 0 = re := by have h := HR3.out; rw [if_neg (fun e => hc e.1)] at h; injection h with h1 h2; exact ⟨h1, h2⟩
    subst e1 e2
    clear hk0 hc
    have HQ := Lib.hid (three_set HRR.out (.int .i64 a.val.kind) (.int .i64 a.val.num) (.string a.val.text))
    have HQB := Lib.hid (bel_set (bel_set (bel_set HB2.out (b := w.heap.size + 2) (i := 0) (by omega) (.int .i64 a.val.kind)) (b := w.heap.size + 2) (i := 1) (by omega) (.int .i64 a.val.num)) (b := w.heap.size + 2) (i := 2) (by omega) (.string a.val.text))
    go_wp2_with fail
    have r0 := blk_cell HQ.out 0
    have r1 := blk_cell HQ.out 1
    have r2 := blk_cell HQ.out 2
    exact bodyPost_ret (v := .tuple #[.agg #[.int .i64 a.val.kind, .int .i64 a.val.num, .string a.val.text], .int .i64 0]) (by simp [results, Tryz.results208, go_sem, r0, r1, r2]) rfl ⟨rfl, HQB.out⟩
set_option maxRecDepth 100000 in
set_option maxHeartbeats 8000000 in
theorem rresult_ok (k i : Int) (a : Ac) (o : Vl) (w : World) (hk : knownB k = true) (h : AcOk k a i) (hi : 0 ≤ i ∧ i ≤ 4096) :
    Calls Tryz.prog 196 #[accV a, vlV o] w fun e w' => e = .returned (.tuple #[vlV (resR k i a o).1, .int .i64 (resR k i a o).2]) ∧ Below w.heap.size w w' := by
  have ha : accV a = .agg #[.int .i64 k, .int .i64 i, .int .i64 a.val.kind, .int .i64 a.val.num, .string a.val.text] := by
    unfold accV
    rw [h.kind, h.count]
  have HCK := Lib.hid (fun W => rcheckA_ok k i a W hk h hi)
  have HWR := Lib.hid (fun W => rwrong_any k o W)
  obtain ⟨er, her⟩ : ∃ er, wrongE k o = er := ⟨_, rfl⟩
  rw [her] at HWR
  obtain ⟨⟨RV, re⟩, hR⟩ : ∃ r, resR k i a o = r := ⟨_, rfl⟩
  have HR : Hid ((if er ≠ 0 then (zeroVl, er) else if k = 0 then (⟨0, i, ⟨#[]⟩⟩, 0) else if i = 0 ∧ k ≠ 1 then (o, 0) else (a.val, 0)) = (RV, re)) := Lib.hid (by rw [← hR, ← her]; rfl)
  rw [hR]
  clear hR
  rw [ha] at HCK ⊢
  obtain ⟨hi1, hi2⟩ := hi
  unfold vlV at HWR ⊢
  clear her hk h ha
  go_enter Tryz.func196, Tryz.ntmps196
  go_wp2_with fail
  refine calls_gen fun W9 e9 => ?_
  have x0 : W9.cell? ⟨w.heap.size, 0, none⟩ = some (.int .i64 k) := by rw [e9]; go_simp
  have x1 : W9.cell? ⟨w.heap.size, 1, none⟩ = some (.int .i64 i) := by rw [e9]; go_simp
  have x2 : W9.cell? ⟨w.heap.size, 2, none⟩ = some (.int .i64 a.val.kind) := by rw [e9]; go_simp
  have x3 : W9.cell? ⟨w.heap.size, 3, none⟩ = some (.int .i64 a.val.num) := by rw [e9]; go_simp
  have x4 : W9.cell? ⟨w.heap.size, 4, none⟩ = some (.string a.val.text) := by rw [e9]; go_simp
  have y0 : W9.cell? ⟨w.heap.size + 1, 0, none⟩ = some (.int .i64 o.kind) := by rw [e9]; go_simp
  have y1 : W9.cell? ⟨w.heap.size + 1, 1, none⟩ = some (.int .i64 o.num) := by rw [e9]; go_simp
  have y2 : W9.cell? ⟨w.heap.size + 1, 2, none⟩ = some (.string o.text) := by rw [e9]; go_simp
  have hr : W9.heap[w.heap.size + 2]? = some (.cells [.int .i64 0, .int .i64 0, .string ⟨#[]⟩].toArray 88 (0, 0)) := by rw [e9]; exact heap_new' _ _ _ (by simp)
  have hb9 : Below w.heap.size w W9 := by rw [e9]; exact (by repeat (first | exact Below.refl _ _ | assumption | refine Below.drew ?_ | refine bel_al ?_ _ | refine bel_set ?_ (by omega) _ | refine bel_tr ?_ (by assumption)))
  clear e9
  refine (HCK.out W9).mono ?_
  rintro e w1 ⟨rfl, hb1⟩
  replace x0 := cell_stays hb1 x0
  replace x1 := cell_stays hb1 x1
  replace x2 := cell_stays hb1 x2
  replace x3 := cell_stays hb1 x3
  replace x4 := cell_stays hb1 x4
  replace y0 := cell_stays hb1 y0
  replace y1 := cell_stays hb1 y1
  replace y2 := cell_stays hb1 y2
  have hr1 := (hb1.block _ (blk_lt hr)).trans hr
  have HB1 := Lib.hid (bel_tr hb9 hb1)
  have HR1 := Lib.hid hr1
  clear hb9 hb1 hr hr1
  go_wp2_with fail
  refine (HWR.out _).mono ?_
  rintro e w2 ⟨rfl, hb2⟩
  replace x0 := cell_stays hb2 x0
  replace x1 := cell_stays hb2 x1
  replace x2 := cell_stays hb2 x2
  replace x3 := cell_stays hb2 x3
  replace x4 := cell_stays hb2 x4
  replace y0 := cell_stays hb2 y0
  replace y1 := cell_stays hb2 y1
  replace y2 := cell_stays hb2 y2
  have HRR := Lib.hid ((hb2.block _ (blk_lt HR1.out)).trans HR1.out)
  have HB2 := Lib.hid (bel_tr HB1.out hb2)
  clear hb2 HR1 HB1
  have z0 : w2.cell? ⟨w.heap.size + 2, 0, none⟩ = some (.int .i64 0) := by rw [blk_cell HRR.out]; rfl
  have z1 : w2.cell? ⟨w.heap.size + 2, 1, none⟩ = some (.int .i64 0) := by rw [blk_cell HRR.out]; rfl
  have z2 : w2.cell? ⟨w.heap.size + 2, 2, none⟩ = some (.string ⟨#[]⟩) := by rw [blk_cell HRR.out]; rfl
  have f0 := blk_frozen HRR.out 0
  have f1 := blk_frozen HRR.out 1
  have f2 := blk_frozen HRR.out 2
  by_cases h0 : er = 0
  case neg =>
    obtain ⟨e1, e2⟩ : (⟨0, 0, ⟨#[]⟩⟩ : Vl) = RV ∧ er = re := by have h := HR.out; rw [if_pos h0] at h; injection h with h1 h2; exact ⟨h1, h2⟩
    subst e1 e2
    have h0' : (er != 0) = true := by simpa using h0
    clear h0
    have HQ := Lib.hid (three_set HRR.out (.int .i64 0) (.int .i64 0) (.string ⟨#[]⟩))
    have HQB := Lib.hid (bel_set (bel_set (bel_set HB2.out (b := w.heap.size + 2) (i := 0) (by omega) (.int .i64 0)) (b := w.heap.size + 2) (i := 1) (by omega) (.int .i64 0)) (b := w.heap.size + 2) (i := 2) (by omega) (.string ⟨#[]⟩))
    go_wp2_with fail
    have r0 := blk_cell HQ.out 0
    have r1 := blk_cell HQ.out 1
    have r2 := blk_cell HQ.out 2
    exact bodyPost_ret (v := .tuple #[.agg #[.int .i64 0, .int .i64 0, .string ⟨#[]⟩], .int .i64 er]) (by simp [results, Tryz.results196, go_sem, r0, r1, r2]) rfl ⟨rfl, HQB.out⟩
  have HR2 : Hid ((if k = 0 then (⟨0, i, ⟨#[]⟩⟩, 0) else if i = 0 ∧ k ≠ 1 then (o, 0) else (a.val, 0)) = (RV, re)) := Lib.hid (by have h := HR.out; rwa [if_neg (by simpa using h0)] at h)
  subst h0
  by_cases hk0 : k = 0
  · obtain ⟨e1, e2⟩ : (⟨0, i, ⟨#[]⟩⟩ : Vl) = RV ∧ 0 = re := by have h := HR2.out; rw [if_pos hk0] at h; injection h with h1 h2; exact ⟨h1, h2⟩
    subst e1 e2
    subst hk0
    have HQ := Lib.hid (three_set HRR.out (.int .i64 0) (.int .i64 i) (.string ⟨#[]⟩))
    have HQB := Lib.hid (bel_set (bel_set (bel_set HB2.out (b := w.heap.size + 2) (i := 0) (by omega) (.int .i64 0)) (b := w.heap.size + 2) (i := 1) (by omega) (.int .i64 i)) (b := w.heap.size + 2) (i := 2) (by omega) (.string ⟨#[]⟩))
    go_wp2_with fail
    have r0 := blk_cell HQ.out 0
    have r1 := blk_cell HQ.out 1
    have r2 := blk_cell HQ.out 2
    exact bodyPost_ret (v := .tuple #[.agg #[.int .i64 0, .int .i64 i, .string ⟨#[]⟩], .int .i64 0]) (by simp [results, Tryz.results196, go_sem, r0, r1, r2]) rfl ⟨rfl, HQB.out⟩
  have HR3 : Hid ((if i = 0 ∧ k ≠ 1 then (o, 0) else (a.val, 0)) = (RV, re)) := Lib.hid (by have h := HR2.out; rwa [if_neg hk0] at h)
  have hk0' : (k == 0) = false := by simpa using hk0
  by_cases hc : i = 0
  · subst hc
    by_cases hk1 : k = 1
    · subst hk1
      obtain ⟨e1, e2⟩ : a.val = RV ∧ 0 = re := by have h := HR3.out; rw [if_neg (by simp)] at h; injection h with h1 h2; exact ⟨h1, h2⟩
      subst e1 e2
      clear hk0
      have HQ := Lib.hid (three_set HRR.out (.int .i64 a.val.kind) (.int .i64 a.val.num) (.string a.val.text))
      have HQB := Lib.hid (bel_set (bel_set (bel_set HB2.out (b := w.heap.size + 2) (i := 0) (by omega) (.int .i64 a.val.kind)) (b := w.heap.size + 2) (i := 1) (by omega) (.int .i64 a.val.num)) (b := w.heap.size + 2) (i := 2) (by omega) (.string a.val.text))
      go_wp2_with fail
      have r0 := blk_cell HQ.out 0
      have r1 := blk_cell HQ.out 1
      have r2 := blk_cell HQ.out 2
      exact bodyPost_ret (v := .tuple #[.agg #[.int .i64 a.val.kind, .int .i64 a.val.num, .string a.val.text], .int .i64 0]) (by simp [results, Tryz.results196, go_sem, r0, r1, r2]) rfl ⟨rfl, HQB.out⟩
    · have hk1' : (k != 1) = true := by simpa using hk1
      obtain ⟨e1, e2⟩ : o = RV ∧ 0 = re := by have h := HR3.out; rw [if_pos ⟨rfl, hk1⟩] at h; injection h with h1 h2; exact ⟨h1, h2⟩
      subst e1 e2
      clear hk0 hk1
      have HQ := Lib.hid (three_set HRR.out (.int .i64 o.kind) (.int .i64 o.num) (.string o.text))
      have HQB := Lib.hid (bel_set (bel_set (bel_set HB2.out (b := w.heap.size + 2) (i := 0) (by omega) (.int .i64 o.kind)) (b := w.heap.size + 2) (i := 1) (by omega) (.int .i64 o.num)) (b := w.heap.size + 2) (i := 2) (by omega) (.string o.text))
      go_wp2_with fail
      have r0 := blk_cell HQ.out 0
      have r1 := blk_cell HQ.out 1
      have r2 := blk_cell HQ.out 2
      exact bodyPost_ret (v := .tuple #[.agg #[.int .i64 o.kind, .int .i64 o.num, .string o.text], .int .i64 0]) (by simp [results, Tryz.results196, go_sem, r0, r1, r2]) rfl ⟨rfl, HQB.out⟩
  · have hc' : (i == 0) = false := by simpa using hc
    obtain ⟨e1, e2⟩ : a.val = RV ∧ 0 = re := by have h := HR3.out; rw [if_neg (fun e => hc e.1)] at h; injection h with h1 h2; exact ⟨h1, h2⟩
    subst e1 e2
    clear hk0 hc
    have HQ := Lib.hid (three_set HRR.out (.int .i64 a.val.kind) (.int .i64 a.val.num) (.string a.val.text))
    have HQB := Lib.hid (bel_set (bel_set (bel_set HB2.out (b := w.heap.size + 2) (i := 0) (by omega) (.int .i64 a.val.kind)) (b := w.heap.size + 2) (i := 1) (by omega) (.int .i64 a.val.num)) (b := w.heap.size + 2) (i := 2) (by omega) (.string a.val.text))
    go_wp2_with fail
    have r0 := blk_cell HQ.out 0
    have r1 := blk_cell HQ.out 1
    have r2 := blk_cell HQ.out 2
    exact bodyPost_ret (v := .tuple #[.agg #[.int .i64 a.val.kind, .int .i64 a.val.num, .string a.val.text], .int .i64 0]) (by simp [results, Tryz.results196, go_sem, r0, r1, r2]) rfl ⟨rfl, HQB.out⟩
end Go.Proofs.YtclpglgigpjfoaaGreatDoor
