/- slices.Equal at bindings. -/
import Derived.Test.YtclpglgigpjfoaaDoorMev
namespace Go.Proofs.YtclpglgigpjfoaaDoor
open Go.RowKit

def bndEq (a b : Bnd) : Bool := a.v == b.v && refEq a b
theorem bndEq_iff {a b : Bnd} : bndEq a b = decide (a = b) := by
  rw [Bool.eq_iff_iff, decide_eq_true_eq]
  cases a; cases b
  simp [bndEq, refEq]
theorem ref_eqIn (a b : Bnd) (W : World) : (Op.equalIn 9999 39 (.agg #[.int .i64 a.t, .int .i64 a.s, .int .i64 a.n]) (.agg #[.int .i64 b.t, .int .i64 b.s, .int .i64 b.n])).run Tryd.prog W = .ok (refEq a b) W := by
  have u3 := Tryd.underlying3
  have a3 := Tryd.isAgg3
  have z3 := Tryd.sizeOf3
  have hS : Tryd.prog.underlying 39 = some (.struct (Tryd.prog.fieldsOf 39)) := by kernel_rfl
  have hp : Tryd.prog.stoodInHeld 39 = false := by kernel_rfl
  rw [show (9999 : Nat) = 9998 + 1 from rfl, run_equalIn_agg W 9998 39 _ _ hS hp]
  simp only [Program.fieldsOf, Tryd.underlying39]
  go_simp
  by_cases h1 : a.t = b.t <;> by_cases h2 : a.s = b.s <;> by_cases h3 : a.n = b.n <;> simp [refEq, h1, h2, h3]
theorem bnd_neq (a b : Bnd) (W : World) : (binOp .neq 41 (bndV a) (bndV b)).run Tryd.prog W = .ok (.bool (!bndEq a b)) W := by
  have u3 := Tryd.underlying3
  have a3 := Tryd.isAgg3
  have z3 := Tryd.sizeOf3
  have a4 := Tryd.isAgg39
  have z4 := Tryd.sizeOf39
  have hr := ref_eqIn a b
  have hS : Tryd.prog.underlying 41 = some (.struct (Tryd.prog.fieldsOf 41)) := by kernel_rfl
  have hp : Tryd.prog.stoodInHeld 41 = false := by kernel_rfl
  unfold bndV
  rw [run_neq_struct, show (10000 : Nat) = 9999 + 1 from rfl, run_equalIn_agg W 9999 41 _ _ hS hp]
  clear hS hp
  simp only [Program.fieldsOf, Tryd.underlying41]
  go_simp
  by_cases h1 : a.v = b.v <;> cases h2 : refEq a b <;> simp [bndEq, h1, h2]

theorem take_succ_of_get {α : Type} {l : List α} {k : Nat} {x : α} (h : l[k]? = some x) : l.take (k + 1) = l.take k ++ [x] := by
  obtain ⟨hk, rfl⟩ := List.getElem?_eq_some_iff.1 h
  exact List.take_succ_eq_append_getElem hk

set_option maxRecDepth 100000 in
set_option maxHeartbeats 1000000 in
theorem equalB_any (l m : List Bnd) (v1 v2 : Value) (w : World) (hl : IsBnds w v1 l) (hm : IsBnds w v2 m) :
    Calls Tryd.prog 10 #[v1, v2] w fun e w' => e = .returned (.bool (decide (l = m))) ∧ Below w.heap.size w w' := by
  obtain ⟨A, c, rfl, h1, h2, hat⟩ := hl
  have hn := len_i64 h1 h2
  have HL := Lib.hid hat
  clear hat h1 h2
  obtain ⟨B, d, rfl, g1, g2, hbt⟩ := hm
  have hn2 := len_i64 g1 g2
  have HM := Lib.hid hbt
  clear hbt g1 g2
  by_cases hlen : l.length = m.length
  case neg =>
    have hle : ¬ (l.length : Int) = (m.length : Int) := by omega
    have he : decide (l = m) = false := decide_eq_false (fun e => hlen (by rw [e]))
    rw [he]
    clear hlen he
    go_enter Tryd.func10, Tryd.ntmps10
    go_wp2
    go_ret
    exact ⟨rfl, Below.refl _ _⟩
  rw [← hlen] at hn2
  rw [← hlen]
  clear hn2
  obtain ⟨t, ht⟩ : ∃ t, decide (l = m) = t := ⟨_, rfl⟩
  have HT := Lib.hid ht
  have HLEN := Lib.hid hlen
  rw [ht]
  clear ht hlen
  go_enter Tryd.func10, Tryd.ntmps10
  go_wp2
  go_loopw [13] (fun i wr => ∃ k : Nat, k ≤ l.length ∧ i = .int .i64 k ∧ Hid (l.take k = m.take k) ∧ Below w.heap.size w wr) (fun i _ => l.length - (intOf i).toNat)
  case atStart => exact ⟨0, Nat.zero_le _, rfl, Lib.hid rfl, Below.refl _ _⟩
  case round =>
    obtain ⟨k, hk, rfl, hi, hb⟩ := hrel
    by_cases hlt : k < l.length
    · have hk' : (k : Int) < (l.length : Int) := by omega
      have hkm : k < m.length := by rw [← HLEN.out]; exact hlt
      obtain ⟨b, o, rfl, c0, c1, c2, c3⟩ := HL.out k l[k] (List.getElem?_eq_getElem hlt)
      obtain ⟨b2, o2, rfl, d0, d1, d2, d3⟩ := HM.out k m[k] (List.getElem?_eq_getElem hkm)
      have hg1 := Lib.hid (List.getElem?_eq_getElem hlt)
      have hg2 := Lib.hid (List.getElem?_eq_getElem hkm)
      obtain ⟨x, hx⟩ : ∃ x, x = l[k] := ⟨_, rfl⟩
      obtain ⟨y, hy⟩ : ∃ y, y = m[k] := ⟨_, rfl⟩
      rw [← hx] at hg1 c0 c1 c2 c3
      rw [← hy] at hg2 d0 d1 d2 d3
      clear hx hy hkm
      replace c0 := cell_stays hb c0
      replace c1 := cell_stays hb c1
      replace c2 := cell_stays hb c2
      replace c3 := cell_stays hb c3
      replace d0 := cell_stays hb d0
      replace d1 := cell_stays hb d1
      replace d2 := cell_stays hb d2
      replace d3 := cell_stays hb d3
      obtain ⟨r, hr⟩ : ∃ r, bndEq x y = r := ⟨_, rfl⟩
      have HR := Lib.hid hr
      have he : ∀ W, (binOp .neq 41 (bndV x) (bndV y)).run Tryd.prog W = .ok (.bool (!r)) W := fun W => by rw [bnd_neq, hr]
      unfold bndV at he
      clear hr
      go_wp2_with fail
      refine wp_region_F (fun W => W.cell? ⟨b, o + k * 4, none⟩ = some (.int .i64 x.v) ∧ W.cell? ⟨b, o + k * 4 + 1, none⟩ = some (.int .i64 x.t) ∧ W.cell? ⟨b, o + k * 4 + 2, none⟩ = some (.int .i64 x.s) ∧ W.cell? ⟨b, o + k * 4 + 3, none⟩ = some (.int .i64 x.n) ∧ W.cell? ⟨b2, o2 + k * 4, none⟩ = some (.int .i64 y.v) ∧ W.cell? ⟨b2, o2 + k * 4 + 1, none⟩ = some (.int .i64 y.t) ∧ W.cell? ⟨b2, o2 + k * 4 + 2, none⟩ = some (.int .i64 y.s) ∧ W.cell? ⟨b2, o2 + k * 4 + 3, none⟩ = some (.int .i64 y.n)) (by repeat (first | exact grows_cell _ _ _ | exact grows_true | refine grows_and ?_ ?_)) (by kernel_rfl) (by kernel_rfl) ?hF ?_; (case hF => (first | exact ⟨‹_›, ‹_›⟩ | (go_simp; done) | (simp [*]; done) | (repeat' (first | (refine And.intro ?_ ?_) | (go_simp; done) | exact cell_stays (bel_al (Below.refl _ _) _) (by assumption) | assumption)))); intro hne hxx; have hG : Hid (Grows (fun W => W.cell? ⟨b, o + k * 4, none⟩ = some (.int .i64 x.v) ∧ W.cell? ⟨b, o + k * 4 + 1, none⟩ = some (.int .i64 x.t) ∧ W.cell? ⟨b, o + k * 4 + 2, none⟩ = some (.int .i64 x.s) ∧ W.cell? ⟨b, o + k * 4 + 3, none⟩ = some (.int .i64 x.n) ∧ W.cell? ⟨b2, o2 + k * 4, none⟩ = some (.int .i64 y.v) ∧ W.cell? ⟨b2, o2 + k * 4 + 1, none⟩ = some (.int .i64 y.t) ∧ W.cell? ⟨b2, o2 + k * 4 + 2, none⟩ = some (.int .i64 y.s) ∧ W.cell? ⟨b2, o2 + k * 4 + 3, none⟩ = some (.int .i64 y.n))) := (by repeat (first | exact grows_cell _ _ _ | exact grows_true | refine grows_and ?_ ?_)); (repeat (go_big_quiet_step (fail))); clear hG hxx hne; refine wpQuiet_nil ?_; rintro wq ⟨⟨w', hb', hF'⟩, rfl⟩
      clear hF'
      cases r with
      | true =>
        go_wp2_with fail
        go_roundw
        case rel =>
          refine ⟨k + 1, by omega, by go_num, Lib.hid ?_, bel_tr hb hb'⟩
          have e1 := HR.out
          rw [bndEq_iff, decide_eq_true_eq] at e1
          subst e1
          rw [take_succ_of_get hg1.out, take_succ_of_get hg2.out, hi.out]
        case measure => simp [intOf]; omega
      | false =>
        have htf : t = false := by
          rw [← HT.out, decide_eq_false_iff_not]
          rintro rfl
          have e1 := HR.out
          have e2 := hg1.out.symm.trans hg2.out
          injection e2 with e2
          rw [e2, bndEq_iff, decide_eq_false_iff_not] at e1
          exact e1 rfl
        subst htf
        go_wp2_with fail
        go_ret
        exact ⟨rfl, bel_tr hb hb'⟩
    · have hk' : ¬ (k : Int) < (l.length : Int) := by omega
      have htt : t = true := by
        rw [← HT.out, decide_eq_true_eq]
        have h3 := hi.out
        rw [List.take_of_length_le (by omega), List.take_of_length_le (by have := HLEN.out; omega)] at h3
        exact h3
      subst htt
      go_wp2_with fail
      go_ret
      exact ⟨rfl, hb⟩
end Go.Proofs.YtclpglgigpjfoaaDoor
