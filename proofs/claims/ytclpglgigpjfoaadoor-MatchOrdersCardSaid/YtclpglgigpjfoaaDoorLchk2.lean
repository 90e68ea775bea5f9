/- The error of a match, as the program finds it. -/
import Derived.Test.YtclpglgigpjfoaaDoorLchk
namespace Go.Proofs.YtclpglgigpjfoaaDoor
open Go.RowKit

set_option maxRecDepth 100000 in
set_option maxHeartbeats 2000000 in
theorem mcheck_any (l : List Bnd) (v : Value) (w : World) (hl : IsBnds w v l) :
    Calls Tryd.prog 8 #[matV v] w fun e w' => e = .returned (.int .i64 (matErr l)) ∧ Below w.heap.size w w' := by
  unfold matV matErr
  obtain ⟨A, c, rfl, h1, h2, hat⟩ := hl
  have hn := len_i64 h1 h2
  have HL := Lib.hid hat
  clear hat h1 h2
  by_cases hz : l.length = 0
  · rw [if_pos hz]
    obtain rfl : l = [] := List.eq_nil_of_length_eq_zero hz
    go_enter Tryd.func8, Tryd.ntmps8
    go_wp2_with fail
    go_ret
    exact ⟨rfl, (by repeat (first | exact Below.refl _ _ | assumption | refine Below.drew ?_ | refine bel_al ?_ _ | refine bel_set ?_ (by omega) _ | refine bel_tr ?_ (by assumption)))⟩
  rw [if_neg hz]
  have hz' : ((l.length : Int) == 0) = false := by rw [beq_eq_false_iff_ne]; omega
  have hz1 : l ≠ [] := by intro h; rw [h] at hz; exact hz rfl
  have HZ := Lib.hid hz
  clear hz
  by_cases hm : 4096 < l.length
  · rw [if_pos hm]
    have hm' : (4096 : Int) < (l.length : Int) := by omega
    go_enter Tryd.func8, Tryd.ntmps8
    go_wp2_with fail
    go_ret
    exact ⟨rfl, (by repeat (first | exact Below.refl _ _ | assumption | refine Below.drew ?_ | refine bel_al ?_ _ | refine bel_set ?_ (by omega) _ | refine bel_tr ?_ (by assumption)))⟩
  rw [if_neg hm]
  have hm' : ¬ (4096 : Int) < (l.length : Int) := by omega
  clear hm
  go_enter Tryd.func8, Tryd.ntmps8
  go_wp2_with fail
  refine wp_gen fun w0 e0 => ?_
  have hw0 : Below w.heap.size w w0 := by rw [e0]; exact (by repeat (first | exact Below.refl _ _ | assumption | refine Below.drew ?_ | refine bel_al ?_ _ | refine bel_set ?_ (by omega) _ | refine bel_tr ?_ (by assumption)))
  have x0 : w0.cell? ⟨w.heap.size, 0, none⟩ = some (.slice A l.length c) := by rw [e0]; go_simp
  have hs0 : w.heap.size < w0.heap.size := by rw [e0]; simp
  have HX := Lib.hid x0
  have HW0 := Lib.hid hw0
  clear e0 x0 hw0
  go_loopw [18] (fun i wr => ∃ k : Nat, k ≤ l.length ∧ i = .int .i64 k ∧ Hid (scanE bndE (prevL l k) (l.drop k) = scanE bndE none l) ∧ Below w0.heap.size w0 wr) (fun i _ => l.length - (intOf i).toNat)
  case atStart => exact ⟨0, Nat.zero_le _, rfl, by exact Lib.hid rfl, Below.refl _ _⟩
  case round =>
    obtain ⟨k, hk, rfl, hi, hb⟩ := hrel
    have x0 := cell_stays hb HX.out
    have hww := Lib.hid (bel_tr HW0.out hb)
    have hsz : w0.heap.size ≤ wr.heap.size := hb.size
    have hne : w.heap.size ≠ wr.heap.size := by omega
    have hne' : wr.heap.size ≠ w.heap.size := by omega
    by_cases hlt : k < l.length
    · have hk' : (k : Int) < (l.length : Int) := by omega
      obtain ⟨b, o, rfl, c0, c1, c2, c3⟩ := HL.out k l[k] (List.getElem?_eq_getElem hlt)
      replace c0 := cell_stays hww.out c0
      replace c1 := cell_stays hww.out c1
      replace c2 := cell_stays hww.out c2
      replace c3 := cell_stays hww.out c3
      have hbl : b < wr.heap.size := World.block_lt_of_cell? wr ⟨b, _, none⟩ c0
      have hnb : b ≠ wr.heap.size := by omega
      have hnb' : wr.heap.size ≠ b := by omega
      have hget := Lib.hid (List.getElem?_eq_getElem hlt)
      obtain ⟨x, hx⟩ : ∃ x, x = l[k] := ⟨_, rfl⟩
      rw [← hx] at hget c0 c1 c2 c3
      clear hx
      by_cases h1 : inI x.v 15 = false
      · have hbad : Hid (bndOk x = false) := Lib.hid (by unfold bndOk plB; rw [h1]; rfl)
        go_wp2_with (go_at_call 20; refine (within_any _ _ _).mono ?_; rintro e w' ⟨rfl, rfl⟩)
        go_ret
        exact ⟨ret_i (scan_stop hget.out hi.out (bndE_2 hbad.out) (by decide)), bel_tr HW0.out (by repeat (first | exact Below.refl _ _ | assumption | refine Below.drew ?_ | refine bel_al ?_ _ | refine bel_set ?_ (by omega) _ | refine bel_tr ?_ (by assumption)))⟩
      rw [Bool.not_eq_false] at h1
      by_cases h2 : inI x.t 1099511627776 = false
      · have hbad : Hid (bndOk x = false) := Lib.hid (by unfold bndOk plB; rw [h1, h2]; rfl)
        go_wp2_with (go_at_call 20; refine (within_any _ _ _).mono ?_; rintro e w' ⟨rfl, rfl⟩)
        go_ret
        exact ⟨ret_i (scan_stop hget.out hi.out (bndE_2 hbad.out) (by decide)), bel_tr HW0.out (by repeat (first | exact Below.refl _ _ | assumption | refine Below.drew ?_ | refine bel_al ?_ _ | refine bel_set ?_ (by omega) _ | refine bel_tr ?_ (by assumption)))⟩
      rw [Bool.not_eq_false] at h2
      by_cases h3 : inI x.s 7 = false
      · have hbad : Hid (bndOk x = false) := Lib.hid (by unfold bndOk plB; rw [h1, h2, h3]; rfl)
        go_wp2_with (go_at_call 20; refine (within_any _ _ _).mono ?_; rintro e w' ⟨rfl, rfl⟩)
        go_ret
        exact ⟨ret_i (scan_stop hget.out hi.out (bndE_2 hbad.out) (by decide)), bel_tr HW0.out (by repeat (first | exact Below.refl _ _ | assumption | refine Below.drew ?_ | refine bel_al ?_ _ | refine bel_set ?_ (by omega) _ | refine bel_tr ?_ (by assumption)))⟩
      rw [Bool.not_eq_false] at h3
      by_cases h4 : inI x.n 1099511627776 = false
      · have hbad : Hid (bndOk x = false) := Lib.hid (by unfold bndOk plB; rw [h1, h2, h3, h4]; rfl)
        go_wp2_with (go_at_call 20; refine (within_any _ _ _).mono ?_; rintro e w' ⟨rfl, rfl⟩)
        go_ret
        exact ⟨ret_i (scan_stop hget.out hi.out (bndE_2 hbad.out) (by decide)), bel_tr HW0.out (by repeat (first | exact Below.refl _ _ | assumption | refine Below.drew ?_ | refine bel_al ?_ _ | refine bel_set ?_ (by omega) _ | refine bel_tr ?_ (by assumption)))⟩
      rw [Bool.not_eq_false] at h4
      have hok : Hid (bndOk x = true) := Lib.hid (by unfold bndOk plB; rw [h1, h2, h3, h4]; rfl)
      by_cases hk0 : k = 0
      · have HK := Lib.hid hk0
        have d1 : decide (0 < k) = false := by simp [hk0]
        have d2 : decide ((0 : Int) < (k : Int)) = false := by simp [hk0]
        clear hk0
        go_wp2_with (go_at_call 20; refine (within_any _ _ _).mono ?_; rintro e w' ⟨rfl, rfl⟩)
        refine wp_region_F (fun W => W.cell? ⟨wr.heap.size, 0, none⟩ = some (.int .i64 x.v) ∧ W.cell? ⟨wr.heap.size, 1, none⟩ = some (.int .i64 x.t)) (by repeat (first | exact grows_cell _ _ _ | exact grows_true | refine grows_and ?_ ?_)) (by kernel_rfl) (by kernel_rfl) ?hF ?_; (case hF => (first | exact ⟨‹_›, ‹_›⟩ | (go_simp; done) | (simp [*]; done) | (repeat' (first | (refine And.intro ?_ ?_) | (go_simp; done) | exact cell_stays (bel_al (Below.refl _ _) _) (by assumption) | assumption)))); intro hne hxx; have hG : Hid (Grows (fun W => W.cell? ⟨wr.heap.size, 0, none⟩ = some (.int .i64 x.v) ∧ W.cell? ⟨wr.heap.size, 1, none⟩ = some (.int .i64 x.t))) := (by repeat (first | exact grows_cell _ _ _ | exact grows_true | refine grows_and ?_ ?_)); (repeat (go_big_quiet_step (fail))); clear hG hxx hne; refine wpQuiet_nil ?_; rintro _ ⟨⟨w', hb', hF'⟩, rfl⟩
        go_wp2_with fail
        go_roundw
        case rel => exact ⟨k + 1, by omega, by go_num, Lib.hid (scan_go hget.out hi.out (bndE_first hok.out HK.out)), (by repeat (first | exact Below.refl _ _ | assumption | refine Below.drew ?_ | refine bel_al ?_ _ | refine bel_set ?_ (by omega) _ | refine bel_tr ?_ (by assumption)))⟩
        case measure => simp [intOf]; omega
      · have hk1 : (0 : Int) ≤ (k : Int) - 1 := by omega
        have hk2 : (k : Int) - 1 < (l.length : Int) := by omega
        have d1 : decide (0 < k) = true := by simp; omega
        have d2 : decide ((0 : Int) < (k : Int)) = true := by simp; omega
        have HK := Lib.hid hk0
        clear hk0
        obtain ⟨_, _, hbo, p0, p1, p2, p3⟩ := HL.out (k - 1) l[k - 1] (List.getElem?_eq_getElem (by omega))
        simp only [Option.some.injEq, Addr.mk.injEq, and_true] at hbo
        obtain ⟨rfl, rfl⟩ := hbo
        replace p1 := cell_stays hww.out p1
        replace p2 := cell_stays hww.out p2
        replace p3 := cell_stays hww.out p3
        have hgetp := Lib.hid (List.getElem?_eq_getElem (l := l) (i := k - 1) (by omega))
        obtain ⟨p, hp⟩ : ∃ p, p = l[k - 1] := ⟨_, rfl⟩
        rw [← hp] at p1 p2 p3 hgetp
        clear hp p0
        obtain ⟨r, hr⟩ : ∃ r, refsC p x = r := ⟨_, rfl⟩
        have HR := Lib.hid hr
        have HRR : ∀ W, Calls Tryd.prog 21 #[.agg #[.int .i64 p.t, .int .i64 p.s, .int .i64 p.n], .agg #[.int .i64 x.t, .int .i64 x.s, .int .i64 x.n]] W fun e w' => e = .returned (.int .i64 r) ∧ Below W.heap.size W w' := fun W => (refs_bnd p x W).mono (fun e w' ⟨h1, h2⟩ => ⟨h1.trans (by rw [hr]), h2.below⟩)
        clear hr
        go_wp2_with (go_at_call 20; refine (within_any _ _ _).mono ?_; rintro e w' ⟨rfl, rfl⟩)
        refine wp_region_F (fun W => W.cell? ⟨wr.heap.size, 1, none⟩ = some (.int .i64 x.t) ∧ W.cell? ⟨wr.heap.size, 2, none⟩ = some (.int .i64 x.s) ∧ W.cell? ⟨wr.heap.size, 3, none⟩ = some (.int .i64 x.n) ∧ W.cell? ⟨w.heap.size, 0, none⟩ = some (.slice (some ⟨b, o, none⟩) l.length c) ∧ W.cell? ⟨b, o + (k - 1) * 4 + 1, none⟩ = some (.int .i64 p.t) ∧ W.cell? ⟨b, o + (k - 1) * 4 + 2, none⟩ = some (.int .i64 p.s) ∧ W.cell? ⟨b, o + (k - 1) * 4 + 3, none⟩ = some (.int .i64 p.n)) (by repeat (first | exact grows_cell _ _ _ | exact grows_true | refine grows_and ?_ ?_)) (by kernel_rfl) (by kernel_rfl) ?hF ?_; (case hF => (first | exact ⟨‹_›, ‹_›⟩ | (go_simp; done) | (simp [*]; done) | (repeat' (first | (refine And.intro ?_ ?_) | (go_simp; done) | exact cell_stays (bel_al (Below.refl _ _) _) (by assumption) | assumption)))); intro hne hxx; have hG : Hid (Grows (fun W => W.cell? ⟨wr.heap.size, 1, none⟩ = some (.int .i64 x.t) ∧ W.cell? ⟨wr.heap.size, 2, none⟩ = some (.int .i64 x.s) ∧ W.cell? ⟨wr.heap.size, 3, none⟩ = some (.int .i64 x.n) ∧ W.cell? ⟨w.heap.size, 0, none⟩ = some (.slice (some ⟨b, o, none⟩) l.length c) ∧ W.cell? ⟨b, o + (k - 1) * 4 + 1, none⟩ = some (.int .i64 p.t) ∧ W.cell? ⟨b, o + (k - 1) * 4 + 2, none⟩ = some (.int .i64 p.s) ∧ W.cell? ⟨b, o + (k - 1) * 4 + 3, none⟩ = some (.int .i64 p.n))) := (by repeat (first | exact grows_cell _ _ _ | exact grows_true | refine grows_and ?_ ?_)); (repeat (go_big_quiet_step ((go_at_call 21; exact cls_call hG (HRR _))))); clear hG hxx hne; refine wpQuiet_nil ?_; rintro _ ⟨⟨w', hb', hF'⟩, rfl⟩
        by_cases hr0 : 0 ≤ r
        · have d3 : decide (0 ≤ r) = true := by simpa using hr0
          go_wp2_with fail
          go_ret
          exact ⟨ret_i (scan_stop hget.out hi.out (bndE_14 hok.out HK.out hgetp.out (by rw [HR.out]; exact hr0)) (by decide)), bel_tr HW0.out (by repeat (first | exact Below.refl _ _ | assumption | refine Below.drew ?_ | refine bel_al ?_ _ | refine bel_set ?_ (by omega) _ | refine bel_tr ?_ (by assumption)))⟩
        · have d3 : decide (0 ≤ r) = false := by simpa using hr0
          go_wp2_with fail
          go_roundw
          case rel => exact ⟨k + 1, by omega, by go_num, Lib.hid (scan_go hget.out hi.out (bndE_0 hok.out HK.out hgetp.out (by rw [HR.out]; omega))), (by repeat (first | exact Below.refl _ _ | assumption | refine Below.drew ?_ | refine bel_al ?_ _ | refine bel_set ?_ (by omega) _ | refine bel_tr ?_ (by assumption)))⟩
          case measure => simp [intOf]; omega
    · have hk' : ¬ (k : Int) < (l.length : Int) := by omega
      go_wp2_with fail
      go_ret
      exact ⟨ret_i (scan_end (by omega) hi.out), bel_tr HW0.out hb⟩
end Go.Proofs.YtclpglgigpjfoaaDoor
