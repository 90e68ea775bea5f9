/- The values of an unknown, as the reference finds them. -/
import Derived.Test.YtgecbjjcjemcgaaDrange
import Derived.Test.YtgecbjjcjemcgaaDrclosed
namespace Go.Proofs.Ytgecbjjcjemcgaa
open Go.RowKit

theorem rtight_u0 (n : Nat) (h16 : 1 ≤ n ∧ n ≤ 6) (bs : List Bd) (v : Value) (x : Nat) (hx : x < n) (w : World) (hl : IsBds w v bs) (hg : good n bs) (hlen : bs.length ≤ 256) {t : Bool} {d : Int} (h1 : gb (truns n (bs.map ed) 0 n).h x = t) (h2 : gd (truns n (bs.map ed) 0 n).d x = d) :
    Calls Try.prog 50 #[zoneV n v, .int .i64 x, .int .i64 0] w fun e W => e = .returned (.tuple #[.int .i64 d, .bool t]) ∧ Below w.heap.size w W := by
  have h := rtightest_any n h16 bs v x 0 hx (by omega) w hl hg hlen
  rw [h1, h2] at h
  exact h
theorem rtight_0u (n : Nat) (h16 : 1 ≤ n ∧ n ≤ 6) (bs : List Bd) (v : Value) (x : Nat) (hx : x < n) (w : World) (hl : IsBds w v bs) (hg : good n bs) (hlen : bs.length ≤ 256) {t : Bool} {d : Int} (h1 : gb (truns n (bs.map ed) x n).h 0 = t) (h2 : gd (truns n (bs.map ed) x n).d 0 = d) :
    Calls Try.prog 50 #[zoneV n v, .int .i64 0, .int .i64 x] w fun e W => e = .returned (.tuple #[.int .i64 d, .bool t]) ∧ Below w.heap.size w W := by
  have h := rtightest_any n h16 bs v 0 x (by omega) hx w hl hg hlen
  rw [h1, h2] at h
  exact h

set_option maxRecDepth 100000 in
set_option maxHeartbeats 4000000 in
theorem rrange_any (n : Int) (hn6 : n ≤ 6) (bs : List Bd) (v : Value) (u : Int) (w : World) (hl : IsBds w v bs) :
    Calls Try.prog 23 #[zoneV n v, .int .i64 u] w (RangeRet w (rangeR n bs u)) := by
  unfold zoneV
  have HL := Lib.hid hl
  obtain ⟨A, c, rfl, -, -, -⟩ := hl
  obtain ⟨e0, he0⟩ : ∃ e, zoneErr n bs = e := ⟨_, rfl⟩
  have HE0 := Lib.hid he0
  by_cases h0 : e0 = 0
  · have g0 : (e0 != 0) = false := by simpa using h0
    obtain ⟨hn1, -, hlen, hgood⟩ := good_of (he0.trans h0)
    have HZ : Hid (zoneErr n bs = 0) := Lib.hid (he0.trans h0)
    obtain ⟨N, rfl⟩ := Int.eq_ofNat_of_zero_le (by omega : 0 ≤ n)
    have HG : Hid (good N bs) := Lib.hid (by rw [Int.toNat_natCast] at hgood; exact hgood)
    clear he0 h0 hgood
    by_cases hu : u < 0 ∨ (N : Int) ≤ u
    · have HR : Hid (rangeR N bs u = (0, 0, 2)) := Lib.hid (by unfold rangeR; rw [if_pos HZ.out, if_pos hu])
      by_cases hu0 : u < 0
      · clear hu
        go_enter Try.func23, Try.ntmps23
        go_wp2_with (go_at_call 33; refine (rzcheck_any _ bs _ _ (HL.out.stays bdAt_stays (bel_al (bel_one _ _) _))).mono ?_; rw [HE0.out]; rintro e w1 ⟨rfl, hb1⟩; obtain ⟨hz, hr, hrf, hbw, hsz⟩ := two_cells hb1; clear hb1)
        rw [HR.out]
        exact bodyPost_ret (v := .tuple #[.agg #[.int .i64 0, .int .i64 0], .int .i64 2]) (by simp [results, Try.results23, go_sem, hr]) rfl ⟨rfl, bel_set (bel_set hbw (by omega) _) (by omega) _⟩
      · have hu1 : (N : Int) ≤ u := by omega
        clear hu
        go_enter Try.func23, Try.ntmps23
        go_wp2_with (go_at_call 33; refine (rzcheck_any _ bs _ _ (HL.out.stays bdAt_stays (bel_al (bel_one _ _) _))).mono ?_; rw [HE0.out]; rintro e w1 ⟨rfl, hb1⟩; obtain ⟨hz, hr, hrf, hbw, hsz⟩ := two_cells hb1; clear hb1)
        rw [HR.out]
        exact bodyPost_ret (v := .tuple #[.agg #[.int .i64 0, .int .i64 0], .int .i64 2]) (by simp [results, Try.results23, go_sem, hr]) rfl ⟨rfl, bel_set (bel_set hbw (by omega) _) (by omega) _⟩
    · have HU := Lib.hid hu
      have hu0 : ¬ u < 0 := by omega
      have hu1 : ¬ (N : Int) ≤ u := by omega
      clear hu
      obtain ⟨U, rfl⟩ := Int.eq_ofNat_of_zero_le (by omega : 0 ≤ u)
      obtain ⟨f, hf⟩ : ∃ f, feas N (bs.map ed) = f := ⟨_, rfl⟩
      have HF := Lib.hid hf
      clear hf
      cases f with
      | false =>
        have HR : Hid (rangeR N bs U = (0, 0, 24)) := Lib.hid (by
          unfold rangeR
          rw [if_pos HZ.out, if_neg HU.out, Int.toNat_natCast, HF.out]; rfl)
        go_enter Try.func23, Try.ntmps23
        go_wp2_with (first
          | (go_at_call 33; refine (rzcheck_any _ bs _ _ (HL.out.stays bdAt_stays (bel_al (bel_one _ _) _))).mono ?_; rw [HE0.out]; rintro e w1 ⟨rfl, hb1⟩; obtain ⟨hz, hr, hrf, hbw, hsz⟩ := two_cells hb1; clear hb1)
          | (go_at_call 49; refine (rfeasible_any N ⟨by omega, by omega⟩ bs _ _ (HL.out.stays bdAt_stays hbw) HG.out hlen).mono ?_; rw [HF.out]; rintro e w2 ⟨rfl, hb2⟩; obtain ⟨hr2, hrf2, hsz2⟩ := arr_keep2 hr hrf hsz hb2; have HBW2 := Lib.hid (bel_tr hbw hb2); clear hr hrf hbw))
        rw [HR.out]
        exact bodyPost_ret (v := .tuple #[.agg #[.int .i64 0, .int .i64 0], .int .i64 24]) (by simp [results, Try.results23, go_sem, hr2]) rfl ⟨rfl, bel_set (bel_set HBW2.out (by omega) _) (by omega) _⟩
      | true =>
        have HOK := Lib.hid (good_ok HG.out)
        have HF1 := Lib.hid (fw_tight HOK.out (feas_sat HF.out) (by omega : U < N) (by omega : 0 < N))
        have HF2 := Lib.hid (fw_tight HOK.out (feas_sat HF.out) (by omega : 0 < N) (by omega : U < N))
        obtain ⟨ta, hta⟩ : ∃ t, gb (truns N (bs.map ed) 0 N).h U = t := ⟨_, rfl⟩
        obtain ⟨ca, hca⟩ : ∃ d, gd (truns N (bs.map ed) 0 N).d U = d := ⟨_, rfl⟩
        obtain ⟨tb, htb⟩ : ∃ t, gb (truns N (bs.map ed) U N).h 0 = t := ⟨_, rfl⟩
        obtain ⟨cb, hcb⟩ : ∃ d, gd (truns N (bs.map ed) U N).d 0 = d := ⟨_, rfl⟩
        have HTA := Lib.hid (tight_of_row hta hca)
        have HTB := Lib.hid (tight_of_row htb hcb)
        have H1 := Lib.hid hta
        have H2 := Lib.hid hca
        have H3 := Lib.hid htb
        have H4 := Lib.hid hcb
        clear hta hca htb hcb
        have HW : Hid (tb = true → IntKind.i64.wrap (-cb) = -cb) := Lib.hid (fun h => by
          have hbb := fw_bounds HG.out (by omega) hlen HF.out (u := 0) (v := U) (c := cb) (by rw [HF2.out, HTB.out, if_pos h])
          exact IntWalk.i64_in _ (by omega))
        have HR : Hid (rangeR N bs U = if ta = true then (if tb = true then (-cb, ca, 0) else (0, 0, 25)) else (0, 0, 25)) := Lib.hid (by
          unfold rangeR
          rw [if_pos HZ.out, if_neg HU.out, Int.toNat_natCast, if_pos HF.out, Int.toNat_natCast, HTA.out, HTB.out]
          cases ta <;> cases tb <;> rfl)
        have hN0 : 0 < N := by omega
        have hUN : U < N := by omega
        cases ta with
        | false =>
          go_enter Try.func23, Try.ntmps23
          go_wp2_with (first
            | (go_at_call 33; refine (rzcheck_any _ bs _ _ (HL.out.stays bdAt_stays (bel_al (bel_one _ _) _))).mono ?_; rw [HE0.out]; rintro e w1 ⟨rfl, hb1⟩; obtain ⟨hz, hr, hrf, hbw, hsz⟩ := two_cells hb1; clear hb1)
            | (go_at_call 49; refine (rfeasible_any N ⟨by omega, by omega⟩ bs _ _ (HL.out.stays bdAt_stays hbw) HG.out hlen).mono ?_; rw [HF.out]; rintro e w2 ⟨rfl, hb2⟩; obtain ⟨hr2, hrf2, hsz2⟩ := arr_keep2 hr hrf hsz hb2; have hz2 := arr_keep hz (by omega : w.heap.size < w1.heap.size) hb2; have HBW2 := Lib.hid (bel_tr hbw hb2); clear hr hrf hbw hz hsz)
            | (go_at_call 50; first
                | (have hc2 := hr2; clear hc2; refine (rtight_u0 N ⟨by omega, by omega⟩ bs _ U hUN _ (HL.out.stays bdAt_stays HBW2.out) HG.out hlen H1.out H2.out).mono ?_; rintro e w3 ⟨rfl, hb3⟩; obtain ⟨hr3, hrf3, hsz3⟩ := arr_keep2 hr2 hrf2 hsz2 hb3; have hz3 := arr_keep hz2 (by omega : w.heap.size < w2.heap.size) hb3; have HBW3 := Lib.hid (bel_tr HBW2.out hb3); clear hr2 hrf2 hz2 hsz2)
                | (refine (rtight_0u N ⟨by omega, by omega⟩ bs _ U hUN _ (HL.out.stays bdAt_stays HBW3.out) HG.out hlen H3.out H4.out).mono ?_; rintro e w4 ⟨rfl, hb4⟩; obtain ⟨hr4, hrf4, hsz4⟩ := arr_keep2 hr3 hrf3 hsz3 hb4; have hz4 := arr_keep hz3 (by omega : w.heap.size < w3.heap.size) hb4; have HBW4 := Lib.hid (bel_tr HBW3.out hb4); clear hr3 hrf3 hz3 hsz3)))
          rw [HR.out]
          exact bodyPost_ret (v := .tuple #[.agg #[.int .i64 0, .int .i64 0], .int .i64 25]) (by simp [results, Try.results23, go_sem, hr4]) rfl ⟨rfl, bel_set (bel_set HBW4.out (by omega) _) (by omega) _⟩
        | true =>
          cases tb with
          | false =>
            go_enter Try.func23, Try.ntmps23
            go_wp2_with (first
              | (go_at_call 33; refine (rzcheck_any _ bs _ _ (HL.out.stays bdAt_stays (bel_al (bel_one _ _) _))).mono ?_; rw [HE0.out]; rintro e w1 ⟨rfl, hb1⟩; obtain ⟨hz, hr, hrf, hbw, hsz⟩ := two_cells hb1; clear hb1)
              | (go_at_call 49; refine (rfeasible_any N ⟨by omega, by omega⟩ bs _ _ (HL.out.stays bdAt_stays hbw) HG.out hlen).mono ?_; rw [HF.out]; rintro e w2 ⟨rfl, hb2⟩; obtain ⟨hr2, hrf2, hsz2⟩ := arr_keep2 hr hrf hsz hb2; have hz2 := arr_keep hz (by omega : w.heap.size < w1.heap.size) hb2; have HBW2 := Lib.hid (bel_tr hbw hb2); clear hr hrf hbw hz hsz)
              | (go_at_call 50; first
                  | (have hc2 := hr2; clear hc2; refine (rtight_u0 N ⟨by omega, by omega⟩ bs _ U hUN _ (HL.out.stays bdAt_stays HBW2.out) HG.out hlen H1.out H2.out).mono ?_; rintro e w3 ⟨rfl, hb3⟩; obtain ⟨hr3, hrf3, hsz3⟩ := arr_keep2 hr2 hrf2 hsz2 hb3; have hz3 := arr_keep hz2 (by omega : w.heap.size < w2.heap.size) hb3; have HBW3 := Lib.hid (bel_tr HBW2.out hb3); clear hr2 hrf2 hz2 hsz2)
                  | (refine (rtight_0u N ⟨by omega, by omega⟩ bs _ U hUN _ (HL.out.stays bdAt_stays HBW3.out) HG.out hlen H3.out H4.out).mono ?_; rintro e w4 ⟨rfl, hb4⟩; obtain ⟨hr4, hrf4, hsz4⟩ := arr_keep2 hr3 hrf3 hsz3 hb4; have hz4 := arr_keep hz3 (by omega : w.heap.size < w3.heap.size) hb4; have HBW4 := Lib.hid (bel_tr HBW3.out hb4); clear hr3 hrf3 hz3 hsz3)))
            rw [HR.out]
            exact bodyPost_ret (v := .tuple #[.agg #[.int .i64 0, .int .i64 0], .int .i64 25]) (by simp [results, Try.results23, go_sem, hr4]) rfl ⟨rfl, bel_set (bel_set HBW4.out (by omega) _) (by omega) _⟩
          | true =>
            have hw := HW.out rfl
            go_enter Try.func23, Try.ntmps23
            go_wp2_with (first
              | (go_at_call 33; refine (rzcheck_any _ bs _ _ (HL.out.stays bdAt_stays (bel_al (bel_one _ _) _))).mono ?_; rw [HE0.out]; rintro e w1 ⟨rfl, hb1⟩; obtain ⟨hz, hr, hrf, hbw, hsz⟩ := two_cells hb1; clear hb1)
              | (go_at_call 49; refine (rfeasible_any N ⟨by omega, by omega⟩ bs _ _ (HL.out.stays bdAt_stays hbw) HG.out hlen).mono ?_; rw [HF.out]; rintro e w2 ⟨rfl, hb2⟩; obtain ⟨hr2, hrf2, hsz2⟩ := arr_keep2 hr hrf hsz hb2; have hz2 := arr_keep hz (by omega : w.heap.size < w1.heap.size) hb2; have HBW2 := Lib.hid (bel_tr hbw hb2); clear hr hrf hbw hz hsz)
              | (go_at_call 50; first
                  | (have hc2 := hr2; clear hc2; refine (rtight_u0 N ⟨by omega, by omega⟩ bs _ U hUN _ (HL.out.stays bdAt_stays HBW2.out) HG.out hlen H1.out H2.out).mono ?_; rintro e w3 ⟨rfl, hb3⟩; obtain ⟨hr3, hrf3, hsz3⟩ := arr_keep2 hr2 hrf2 hsz2 hb3; have hz3 := arr_keep hz2 (by omega : w.heap.size < w2.heap.size) hb3; have HBW3 := Lib.hid (bel_tr HBW2.out hb3); clear hr2 hrf2 hz2 hsz2)
                  | (refine (rtight_0u N ⟨by omega, by omega⟩ bs _ U hUN _ (HL.out.stays bdAt_stays HBW3.out) HG.out hlen H3.out H4.out).mono ?_; rintro e w4 ⟨rfl, hb4⟩; obtain ⟨hr4, hrf4, hsz4⟩ := arr_keep2 hr3 hrf3 hsz3 hb4; have hz4 := arr_keep hz3 (by omega : w.heap.size < w3.heap.size) hb4; have HBW4 := Lib.hid (bel_tr HBW3.out hb4); clear hr3 hrf3 hz3 hsz3)))
            rw [HR.out]
            exact bodyPost_ret (v := .tuple #[.agg #[.int .i64 (-cb), .int .i64 ca], .int .i64 0]) (by simp [results, Try.results23, go_sem, hr4]) rfl ⟨rfl, bel_set (bel_set HBW4.out (by omega) _) (by omega) _⟩
  · have g0 : (e0 != 0) = true := by simpa using h0
    have HR : Hid (rangeR n bs u = (0, 0, e0)) := Lib.hid (by unfold rangeR; rw [he0, if_neg h0])
    clear he0 h0
    go_enter Try.func23, Try.ntmps23
    go_wp2_with (go_at_call 33; refine (rzcheck_any _ bs _ _ (HL.out.stays bdAt_stays (bel_al (bel_one _ _) _))).mono ?_; rw [HE0.out]; rintro e w1 ⟨rfl, hb1⟩; obtain ⟨hz, hr, hrf, hbw, hsz⟩ := two_cells hb1; clear hb1)
    rw [HR.out]
    exact bodyPost_ret (v := .tuple #[.agg #[.int .i64 0, .int .i64 0], .int .i64 e0]) (by simp [results, Try.results23, go_sem, hr]) rfl ⟨rfl, bel_set (bel_set hbw (by omega) _) (by omega) _⟩
end Go.Proofs.Ytgecbjjcjemcgaa
