/- The orders of the references 05 and 17. -/
import Derived.Test.YtclpglgigpjfoaaDoorLcmp2
namespace Go.Proofs.YtclpglgigpjfoaaDoor
open Go.RowKit

theorem ret_i {a b : Int} (h : a = b) : Ending.returned (.int .i64 a) = .returned (.int .i64 b) := by rw [h]
set_option maxHeartbeats 1000000 in
theorem rrefs_bnd (a b : Bnd) (w : World) :
    Calls Tryd.prog 71 #[.agg #[.int .i64 a.t, .int .i64 a.s, .int .i64 a.n], .agg #[.int .i64 b.t, .int .i64 b.s, .int .i64 b.n]] w fun e w' => e = .returned (.int .i64 (refsC a b)) ∧ Gr w w' := by
  obtain ⟨v1, t1, s1, n1⟩ := a
  obtain ⟨v2, t2, s2, n2⟩ := b
  simp only [refsC]
  rcases Int.lt_trichotomy t1 t2 with h | h | h
  · have hn : (t1 != t2) = true := by simp; omega
    have hr : orI (orI (cmpI t1 t2) (cmpI s1 s2)) (cmpI n1 n2) = -1 := by simp [orI, cmpI, h]
    rw [hr]
    clear hr
    go_enter Tryd.func71, Tryd.ntmps71
    go_wp2
    go_ret
    exact ⟨rfl, (by repeat (first | exact Gr.refl _ | assumption | refine Gr.drew ?_ | refine Gr.alloc ?_ _ | refine Gr.set ?_ (by omega) _ | refine Gr.trans ?_ (by assumption)))⟩
  · subst h
    rcases Int.lt_trichotomy s1 s2 with h | h | h
    · have hn : (s1 != s2) = true := by simp; omega
      have hr : orI (orI (cmpI t1 t1) (cmpI s1 s2)) (cmpI n1 n2) = -1 := by simp [orI, cmpI, h]
      rw [hr]
      clear hr
      go_enter Tryd.func71, Tryd.ntmps71
      go_wp2
      go_ret
      exact ⟨rfl, (by repeat (first | exact Gr.refl _ | assumption | refine Gr.drew ?_ | refine Gr.alloc ?_ _ | refine Gr.set ?_ (by omega) _ | refine Gr.trans ?_ (by assumption)))⟩
    · subst h
      have hr : orI (orI (cmpI t1 t1) (cmpI s1 s1)) (cmpI n1 n2) = cmpI n1 n2 := by simp [orI, cmpI]
      rw [hr]
      clear hr
      rcases Int.lt_trichotomy n1 n2 with h | h | h
      · have hr : cmpI n1 n2 = -1 := by simp [cmpI, h]
        rw [hr]
        clear hr
        go_enter Tryd.func71, Tryd.ntmps71
        go_wp2
        go_ret
        exact ⟨rfl, (by repeat (first | exact Gr.refl _ | assumption | refine Gr.drew ?_ | refine Gr.alloc ?_ _ | refine Gr.set ?_ (by omega) _ | refine Gr.trans ?_ (by assumption)))⟩
      · subst h
        have hr : cmpI n1 n1 = 0 := by simp [cmpI]
        rw [hr]
        clear hr
        go_enter Tryd.func71, Tryd.ntmps71
        go_wp2
        go_ret
        exact ⟨rfl, (by repeat (first | exact Gr.refl _ | assumption | refine Gr.drew ?_ | refine Gr.alloc ?_ _ | refine Gr.set ?_ (by omega) _ | refine Gr.trans ?_ (by assumption)))⟩
      · have hr : cmpI n1 n2 = 1 := by unfold cmpI; rw [if_neg (by omega), if_pos h]
        rw [hr]
        clear hr
        have h' : ¬ n1 < n2 := by omega
        go_enter Tryd.func71, Tryd.ntmps71
        go_wp2
        go_ret
        exact ⟨rfl, (by repeat (first | exact Gr.refl _ | assumption | refine Gr.drew ?_ | refine Gr.alloc ?_ _ | refine Gr.set ?_ (by omega) _ | refine Gr.trans ?_ (by assumption)))⟩
    · have hn : (s1 != s2) = true := by simp; omega
      have hr : orI (orI (cmpI t1 t1) (cmpI s1 s2)) (cmpI n1 n2) = 1 := by
        have h1 : cmpI t1 t1 = 0 := by simp [cmpI]
        have h2 : cmpI s1 s2 = 1 := by unfold cmpI; rw [if_neg (by omega), if_pos h]
        rw [h1, h2]; rfl
      rw [hr]
      clear hr
      have h' : ¬ s1 < s2 := by omega
      go_enter Tryd.func71, Tryd.ntmps71
      go_wp2
      go_ret
      exact ⟨rfl, (by repeat (first | exact Gr.refl _ | assumption | refine Gr.drew ?_ | refine Gr.alloc ?_ _ | refine Gr.set ?_ (by omega) _ | refine Gr.trans ?_ (by assumption)))⟩
  · have hn : (t1 != t2) = true := by simp; omega
    have hr : orI (orI (cmpI t1 t2) (cmpI s1 s2)) (cmpI n1 n2) = 1 := by
      have h1 : cmpI t1 t2 = 1 := by unfold cmpI; rw [if_neg (by omega), if_pos h]
      rw [h1]; rfl
    rw [hr]
    clear hr
    have h' : ¬ t1 < t2 := by omega
    go_enter Tryd.func71, Tryd.ntmps71
    go_wp2
    go_ret
    exact ⟨rfl, (by repeat (first | exact Gr.refl _ | assumption | refine Gr.drew ?_ | refine Gr.alloc ?_ _ | refine Gr.set ?_ (by omega) _ | refine Gr.trans ?_ (by assumption)))⟩

set_option maxHeartbeats 1000000 in
theorem rbnds_any (a b : Bnd) (w : World) :
    Calls Tryd.prog 50 #[bndV a, bndV b] w fun e w' => e = .returned (.int .i64 (bndC a b)) ∧ Gr w w' := by
  unfold bndV bndC
  obtain ⟨r, hr⟩ : ∃ r, refsC a b = r := ⟨_, rfl⟩
  have HR := Lib.hid hr
  rw [hr, orI_c]
  clear hr
  by_cases h0 : r = 0
  · subst h0
    rw [if_pos rfl]
    rcases Int.lt_trichotomy a.v b.v with h | h | h
    · have hr : cmpI a.v b.v = -1 := by simp [cmpI, h]
      rw [hr]
      clear hr
      go_enter Tryd.func50, Tryd.ntmps50
      go_wp2_with (go_at_call 71; refine (rrefs_bnd a b _).mono ?_; rw [HR.out]; rintro e w3 ⟨rfl, hg3⟩; obtain ⟨hz, hy, -⟩ := two_new hg3.below)
      go_ret
      exact ⟨rfl, (by repeat (first | exact Gr.refl _ | assumption | refine Gr.drew ?_ | refine Gr.alloc ?_ _ | refine Gr.set ?_ (by omega) _ | refine Gr.trans ?_ (by assumption)))⟩
    · have hr : cmpI a.v b.v = 0 := by simp [cmpI, h]
      rw [hr]
      clear hr
      go_enter Tryd.func50, Tryd.ntmps50
      go_wp2_with (go_at_call 71; refine (rrefs_bnd a b _).mono ?_; rw [HR.out]; rintro e w3 ⟨rfl, hg3⟩; obtain ⟨hz, hy, -⟩ := two_new hg3.below)
      go_ret
      exact ⟨rfl, (by repeat (first | exact Gr.refl _ | assumption | refine Gr.drew ?_ | refine Gr.alloc ?_ _ | refine Gr.set ?_ (by omega) _ | refine Gr.trans ?_ (by assumption)))⟩
    · have hr : cmpI a.v b.v = 1 := by unfold cmpI; rw [if_neg (by omega), if_pos h]
      rw [hr]
      clear hr
      have h' : ¬ a.v < b.v := by omega
      go_enter Tryd.func50, Tryd.ntmps50
      go_wp2_with (go_at_call 71; refine (rrefs_bnd a b _).mono ?_; rw [HR.out]; rintro e w3 ⟨rfl, hg3⟩; obtain ⟨hz, hy, -⟩ := two_new hg3.below)
      go_ret
      exact ⟨rfl, (by repeat (first | exact Gr.refl _ | assumption | refine Gr.drew ?_ | refine Gr.alloc ?_ _ | refine Gr.set ?_ (by omega) _ | refine Gr.trans ?_ (by assumption)))⟩
  · rw [if_neg h0]
    have h0' : (r != 0) = true := by simpa using h0
    go_enter Tryd.func50, Tryd.ntmps50
    go_wp2_with (go_at_call 71; refine (rrefs_bnd a b _).mono ?_; rw [HR.out]; rintro e w3 ⟨rfl, hg3⟩)
    go_ret
    exact ⟨rfl, (by repeat (first | exact Gr.refl _ | assumption | refine Gr.drew ?_ | refine Gr.alloc ?_ _ | refine Gr.set ?_ (by omega) _ | refine Gr.trans ?_ (by assumption)))⟩

set_option maxRecDepth 100000 in
set_option maxHeartbeats 1000000 in
theorem rcompare_any (l m : List Bnd) (v1 v2 : Value) (w : World) (hl : IsBnds w v1 l) (hm : IsBnds w v2 m) :
    Calls Tryd.prog 34 #[matV v1, matV v2] w fun e w' => e = .returned (.int .i64 (bsC l m)) ∧ Gr w w' := by
  unfold matV
  obtain ⟨A, c, rfl, h1, h2, hat⟩ := hl
  have hn := len_i64 h1 h2
  have HL := Lib.hid hat
  clear hat h1 h2
  obtain ⟨B, d, rfl, h1, h2, hat⟩ := hm
  have hn2 := len_i64 h1 h2
  have HM := Lib.hid hat
  clear hat h1 h2
  go_enter Tryd.func34, Tryd.ntmps34
  go_wp2_with fail
  refine wp_gen fun w0 e0 => ?_
  have hw0 : Gr w w0 := by rw [e0]; exact (by repeat (first | exact Gr.refl _ | assumption | refine Gr.drew ?_ | refine Gr.alloc ?_ _ | refine Gr.set ?_ (by omega) _ | refine Gr.trans ?_ (by assumption)))
  have x0 : w0.cell? ⟨w.heap.size, 0, none⟩ = some (.slice A l.length c) := by rw [e0]; go_simp
  have y0 : w0.cell? ⟨w.heap.size + 1, 0, none⟩ = some (.slice B m.length d) := by rw [e0]; go_simp
  have HX := Lib.hid x0
  have HY := Lib.hid y0
  clear e0 x0 y0
  go_loopw [5] (fun i wr => ∃ k : Nat, k ≤ l.length ∧ k ≤ m.length ∧ i = .int .i64 k ∧ Hid (bsC (l.drop k) (m.drop k) = bsC l m) ∧ Gr w0 wr) (fun i _ => l.length - (intOf i).toNat)
  case atStart => exact ⟨0, Nat.zero_le _, Nat.zero_le _, rfl, by exact Lib.hid rfl, Gr.refl _⟩
  case round =>
    obtain ⟨k, hk, hkm, rfl, hi, hb⟩ := hrel
    have x0 := cell_stays hb.below HX.out
    have y0 := cell_stays hb.below HY.out
    by_cases hlt : k < l.length
    · have hk' : (k : Int) < (l.length : Int) := by omega
      by_cases hlm : k < m.length
      · obtain ⟨b, o, rfl, c0, c1, c2, c3⟩ := HL.out k l[k] (List.getElem?_eq_getElem hlt)
        replace c0 := cell_stays (hw0.trans hb).below c0
        replace c1 := cell_stays (hw0.trans hb).below c1
        replace c2 := cell_stays (hw0.trans hb).below c2
        replace c3 := cell_stays (hw0.trans hb).below c3
        have hget := Lib.hid (List.getElem?_eq_getElem hlt)
        obtain ⟨x, hx⟩ : ∃ x, x = l[k] := ⟨_, rfl⟩
        rw [← hx] at hget c0 c1 c2 c3
        clear hx
        obtain ⟨b2, o2, rfl, d0, d1, d2, d3⟩ := HM.out k m[k] (List.getElem?_eq_getElem hlm)
        replace d0 := cell_stays (hw0.trans hb).below d0
        replace d1 := cell_stays (hw0.trans hb).below d1
        replace d2 := cell_stays (hw0.trans hb).below d2
        replace d3 := cell_stays (hw0.trans hb).below d3
        have hget2 := Lib.hid (List.getElem?_eq_getElem hlm)
        obtain ⟨y, hy⟩ : ∃ y, y = m[k] := ⟨_, rfl⟩
        rw [← hy] at hget2 d0 d1 d2 d3
        clear hy
        have hk3 : (k : Int) < (m.length : Int) := by omega
        obtain ⟨r, hr⟩ : ∃ r, bndC x y = r := ⟨_, rfl⟩
        have HR := Lib.hid hr
        clear hr
        go_wp2_with fail
        refine wp_gen fun w2 e2 => ?_
        have hww : wr = w2 := e2.symm
        subst hww
        clear e2
        have hg2 : Gr wr wr := Gr.refl _
        have hFF : Hid ((fun W => W.cell? ⟨w.heap.size, 0, none⟩ = some (.slice (some ⟨b, o, none⟩) l.length c) ∧ W.cell? ⟨w.heap.size + 1, 0, none⟩ = some (.slice (some ⟨b2, o2, none⟩) m.length d) ∧ W.cell? ⟨b, o + k * 4, none⟩ = some (.int .i64 x.v) ∧ W.cell? ⟨b, o + k * 4 + 1, none⟩ = some (.int .i64 x.t) ∧ W.cell? ⟨b, o + k * 4 + 2, none⟩ = some (.int .i64 x.s) ∧ W.cell? ⟨b, o + k * 4 + 3, none⟩ = some (.int .i64 x.n) ∧ W.cell? ⟨b2, o2 + k * 4, none⟩ = some (.int .i64 y.v) ∧ W.cell? ⟨b2, o2 + k * 4 + 1, none⟩ = some (.int .i64 y.t) ∧ W.cell? ⟨b2, o2 + k * 4 + 2, none⟩ = some (.int .i64 y.s) ∧ W.cell? ⟨b2, o2 + k * 4 + 3, none⟩ = some (.int .i64 y.n)) wr) := Lib.hid (by (first | exact ⟨‹_›, ‹_›⟩ | (go_simp; done) | (simp [*]; done))); have hGG : Hid (Grows (fun W => W.cell? ⟨w.heap.size, 0, none⟩ = some (.slice (some ⟨b, o, none⟩) l.length c) ∧ W.cell? ⟨w.heap.size + 1, 0, none⟩ = some (.slice (some ⟨b2, o2, none⟩) m.length d) ∧ W.cell? ⟨b, o + k * 4, none⟩ = some (.int .i64 x.v) ∧ W.cell? ⟨b, o + k * 4 + 1, none⟩ = some (.int .i64 x.t) ∧ W.cell? ⟨b, o + k * 4 + 2, none⟩ = some (.int .i64 x.s) ∧ W.cell? ⟨b, o + k * 4 + 3, none⟩ = some (.int .i64 x.n) ∧ W.cell? ⟨b2, o2 + k * 4, none⟩ = some (.int .i64 y.v) ∧ W.cell? ⟨b2, o2 + k * 4 + 1, none⟩ = some (.int .i64 y.t) ∧ W.cell? ⟨b2, o2 + k * 4 + 2, none⟩ = some (.int .i64 y.s) ∧ W.cell? ⟨b2, o2 + k * 4 + 3, none⟩ = some (.int .i64 y.n))) := (by repeat (first | exact grows_cell _ _ _ | exact grows_true | refine grows_and ?_ ?_)); have hFF' := hFF.out; go_region_held3 (fun W => W.cell? ⟨w.heap.size, 0, none⟩ = some (.slice (some ⟨b, o, none⟩) l.length c) ∧ W.cell? ⟨w.heap.size + 1, 0, none⟩ = some (.slice (some ⟨b2, o2, none⟩) m.length d) ∧ W.cell? ⟨b, o + k * 4, none⟩ = some (.int .i64 x.v) ∧ W.cell? ⟨b, o + k * 4 + 1, none⟩ = some (.int .i64 x.t) ∧ W.cell? ⟨b, o + k * 4 + 2, none⟩ = some (.int .i64 x.s) ∧ W.cell? ⟨b, o + k * 4 + 3, none⟩ = some (.int .i64 x.n) ∧ W.cell? ⟨b2, o2 + k * 4, none⟩ = some (.int .i64 y.v) ∧ W.cell? ⟨b2, o2 + k * 4 + 1, none⟩ = some (.int .i64 y.t) ∧ W.cell? ⟨b2, o2 + k * 4 + 2, none⟩ = some (.int .i64 y.s) ∧ W.cell? ⟨b2, o2 + k * 4 + 3, none⟩ = some (.int .i64 y.n)) (with_reducible exact hGG.out.to (Gr.below (by repeat (first | with_reducible exact Gr.refl _ | assumption | with_reducible refine Gr.drew ?_ | with_reducible refine Gr.alloc ?_ _ | with_reducible refine Gr.trans ?_ (by assumption)))) hFF.out) (first | (go_at_call 50; refine (rbnds_any x y _).mono ?_; rw [HR.out]; rintro e w3 ⟨rfl, hg3⟩))
        have hg' : Gr w0 w3 := hb.trans (by repeat (first | exact Gr.refl _ | assumption | refine Gr.drew ?_ | refine Gr.alloc ?_ _ | refine Gr.set ?_ (by omega) _ | refine Gr.trans ?_ (by assumption)))
        clear hg2
        by_cases hr0 : r = 0
        · subst hr0
          go_wp2_with fail
          go_roundw
          case rel =>
            refine ⟨k + 1, by omega, by omega, by go_num, ?_, hg'⟩
            have := hi.out
            rw [bsC_both hget.out hget2.out, HR.out] at this
            exact Lib.hid this
          case measure => simp [intOf]; omega
        · have hr' : (r != 0) = true := by simpa using hr0
          have HR0 := Lib.hid hr0
          clear hr0
          go_wp2_with fail
          go_ret
          have := hi.out
          rw [bsC_both hget.out hget2.out, HR.out, orI, if_neg HR0.out] at this
          rw [← this]
          exact ⟨rfl, hw0.trans hg'⟩
      · have hk2 : ¬ ((k : Int) < (m.length : Int)) := by omega
        have hk3 : ¬ ((l.length : Int) < (m.length : Int)) := by omega
        have hk4 : (m.length : Int) < (l.length : Int) := by omega
        go_wp2_with fail
        go_ret
        have := hi.out
        rw [bsC_left (List.getElem?_eq_getElem hlt) (by omega)] at this
        rw [← this]
        exact ⟨rfl, hw0.trans hb⟩
    · have he := hi.out
      rw [bsC_end (by omega)] at he
      have HE := Lib.hid he
      clear he
      have hkl : l.length = k := by omega
      have hk' : ¬ ((k : Int) < (l.length : Int)) := by omega
      have HK := Lib.hid hkl
      clear hkl
      by_cases hlm : k < m.length
      · have hlm' : (l.length : Int) < (m.length : Int) := by have := HK.out; omega
        go_wp2_with fail
        go_ret
        have := HE.out
        rw [if_pos hlm] at this
        rw [← this]
        exact ⟨rfl, hw0.trans hb⟩
      · have hlm' : ¬ ((l.length : Int) < (m.length : Int)) := by have := HK.out; omega
        have hlm2 : ¬ ((m.length : Int) < (l.length : Int)) := by have := HK.out; omega
        go_wp2_with fail
        go_ret
        have := HE.out
        rw [if_neg hlm] at this
        rw [← this]
        exact ⟨rfl, hw0.trans hb⟩
end Go.Proofs.YtclpglgigpjfoaaDoor
