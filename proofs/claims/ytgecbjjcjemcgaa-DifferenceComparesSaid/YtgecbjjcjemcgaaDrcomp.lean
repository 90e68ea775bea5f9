/- Implies, Inside and Meet of the reference. -/
import Derived.Test.YtgecbjjcjemcgaaDcomp2
import Derived.Test.YtgecbjjcjemcgaaDrrange
namespace Go.Proofs.Ytgecbjjcjemcgaa
open Go.RowKit

set_option maxRecDepth 100000 in
set_option maxHeartbeats 2000000 in
theorem rhas_any (n : Nat) (h16 : 1 ≤ n ∧ n ≤ 6) (bs : List Bd) (v : Value) (b : Bd) (w : World) (hl : IsBds w v bs) (hg : good n bs) (hlen : bs.length ≤ 256) (hin : inB n b) :
    Calls Try.prog 64 #[zoneV n v, bdV b] w fun e W => e = .returned (.bool (hasB n bs b)) ∧ Below w.heap.size w W := by
  unfold zoneV bdV
  have HL := Lib.hid hl
  have HG := Lib.hid hg
  obtain ⟨A, c, rfl, -, -, -⟩ := hl
  clear hg
  obtain ⟨f, hf⟩ : ∃ f, feas n (bs.map ed) = f := ⟨_, rfl⟩
  have HF := Lib.hid hf
  clear hf
  cases f with
  | false =>
    rw [hasB_no HF.out]
    go_enter Try.func64, Try.ntmps64
    go_wp2_with (go_at_call 49; refine (rfeasible_any n h16 bs _ _ (HL.out.stays bdAt_stays (bel_al (bel_one _ _) _)) HG.out hlen).mono ?_; rw [HF.out]; rintro e w1 ⟨rfl, hb1⟩)
    go_ret
    exact ⟨rfl, bel_tr (bel_al (bel_one _ _) _) hb1⟩
  | true =>
    obtain ⟨x, y, m⟩ := b
    obtain ⟨hx0, hx1, hy0, hy1⟩ := hin
    simp only at hx0 hx1 hy0 hy1
    obtain ⟨X, rfl⟩ := Int.eq_ofNat_of_zero_le hx0
    obtain ⟨Y, rfl⟩ := Int.eq_ofNat_of_zero_le hy0
    have hX : X < n := by omega
    have hY : Y < n := by omega
    obtain ⟨t, ht⟩ : ∃ t, gb (truns n (bs.map ed) Y n).h X = t := ⟨_, rfl⟩
    obtain ⟨d, hd⟩ : ∃ d, gd (truns n (bs.map ed) Y n).d X = d := ⟨_, rfl⟩
    have HTD : Hid (gb (truns n (bs.map ed) Y n).h X = t ∧ gd (truns n (bs.map ed) Y n).d X = d) := Lib.hid ⟨ht, hd⟩
    have htr := tight_of_row ht hd
    clear ht hd
    cases t with
    | false =>
      have HH : Hid (hasB n bs ⟨(X : Int), (Y : Int), m⟩ = false) := Lib.hid (hasB_none HF.out (by simpa using htr))
      rw [HH.out]
      clear htr
      go_enter Try.func64, Try.ntmps64
      go_wp2_with (first
        | (go_at_call 49; refine (rfeasible_any n h16 bs _ _ (HL.out.stays bdAt_stays (bel_al (bel_one _ _) _)) HG.out hlen).mono ?_; rw [HF.out]; rintro e w1 ⟨rfl, hb1⟩; obtain ⟨hz, hr, hrf, hbw, hsz⟩ := two_cells hb1; clear hb1 hrf)
        | (go_at_call 50; refine (rtightest_any n h16 bs _ X Y hX hY _ (HL.out.stays bdAt_stays hbw) HG.out hlen).mono ?_; rw [HTD.out.1, HTD.out.2]; rintro e w2 ⟨rfl, hb2⟩))
      go_ret
      exact ⟨rfl, bel_tr hbw hb2⟩
    | true =>
      have HH : Hid (hasB n bs ⟨(X : Int), (Y : Int), m⟩ = decide (d ≤ m)) := Lib.hid (hasB_some HF.out (by simpa using htr))
      obtain ⟨r, hr⟩ : ∃ r, decide (d ≤ m) = r := ⟨_, rfl⟩
      rw [HH.out, hr]
      clear htr
      go_enter Try.func64, Try.ntmps64
      go_wp2_with (first
        | (go_at_call 49; refine (rfeasible_any n h16 bs _ _ (HL.out.stays bdAt_stays (bel_al (bel_one _ _) _)) HG.out hlen).mono ?_; rw [HF.out]; rintro e w1 ⟨rfl, hb1⟩; obtain ⟨hz, hr, hrf, hbw, hsz⟩ := two_cells hb1; clear hb1 hrf)
        | (go_at_call 50; refine (rtightest_any n h16 bs _ X Y hX hY _ (HL.out.stays bdAt_stays hbw) HG.out hlen).mono ?_; rw [HTD.out.1, HTD.out.2]; rintro e w2 ⟨rfl, hb2⟩; have hr2 := arr_keep hr (by omega) hb2; have b2 : w2.cell? ⟨w.heap.size + 1, 2, none⟩ = some (.int .i64 m) := hr2 2; clear hr2))
      go_ret
      exact ⟨rfl, bel_tr hbw hb2⟩

set_option maxRecDepth 100000 in
set_option maxHeartbeats 2000000 in
theorem rimplies_any (n : Int) (hn6 : n ≤ 6) (bs : List Bd) (v : Value) (b : Bd) (w : World) (hl : IsBds w v bs) :
    Calls Try.prog 36 #[zoneV n v, bdV b] w fun e W => e = .returned (.tuple #[.bool (impliesR n bs b).1, .int .i64 (impliesR n bs b).2]) ∧ Below w.heap.size w W := by
  unfold zoneV bdV
  have HL := Lib.hid hl
  obtain ⟨A, c, rfl, -, -, -⟩ := hl
  obtain ⟨e0, he0⟩ : ∃ e, zoneErr n bs = e := ⟨_, rfl⟩
  have HE0 := Lib.hid he0
  by_cases h0 : e0 = 0
  · have g0 : (e0 != 0) = false := by simpa using h0
    obtain ⟨hn1, -, hlen, hgood⟩ := good_of (he0.trans h0)
    have HZ : Hid (zoneErr n bs = 0) := Lib.hid (he0.trans h0)
    obtain ⟨N, rfl⟩ := Int.eq_ofNat_of_zero_le (by omega : 0 ≤ n)
    have HG : Hid (good N bs) := Lib.hid (by rw [Int.toNat_natCast] at hgood; exact hgood)
    clear he0 h0 hgood
    obtain ⟨e1, he1⟩ : ∃ e, boundErr N b = e := ⟨_, rfl⟩
    have HE1 := Lib.hid he1
    by_cases h1 : e1 = 0
    · have g1 : (e1 != 0) = false := by simpa using h1
      have HIN := Lib.hid (boundErr_in (he1.trans h1))
      obtain ⟨r, hr⟩ : ∃ r, hasB N bs b = r := ⟨_, rfl⟩
      have HH := Lib.hid hr
      have HR : Hid (impliesR N bs b = (r, 0)) := Lib.hid (by unfold impliesR; rw [if_pos HZ.out, if_pos (he1.trans h1), Int.toNat_natCast, hr])
      clear he1 h1 hr
      rw [HR.out]
      go_enter Try.func36, Try.ntmps36
      go_wp2_with (first
        | (go_at_call 33; refine (rzcheck_any _ bs _ _ (HL.out.stays bdAt_stays (bel_al (bel_one _ _) _))).mono ?_; rw [HE0.out]; rintro e w1 ⟨rfl, hb1⟩; obtain ⟨hz, hr, hrf, hbw, hsz⟩ := two_cells hb1; clear hb1 hrf)
        | (go_at_call 61; refine (rbound_any N b _).mono ?_; rw [HE1.out]; rintro e w2 ⟨rfl, hb2⟩; have hz2 := arr_keep hz (by omega) hb2; have hr2 := arr_keep hr (by omega) hb2; have hbw2 := bel_tr hbw hb2; clear hz hr hbw hb2)
        | (go_at_call 64; refine (rhas_any N ⟨by omega, by omega⟩ bs _ b _ (HL.out.stays bdAt_stays hbw2) HG.out hlen HIN.out).mono ?_; rw [HH.out]; rintro e w3 ⟨rfl, hb3⟩))
      go_ret2
      exact ⟨rfl, bel_tr hbw2 hb3⟩
    · have g1 : (e1 != 0) = true := by simpa using h1
      have HR : Hid (impliesR N bs b = (false, e1)) := Lib.hid (by unfold impliesR; rw [if_pos HZ.out, he1, if_neg h1])
      clear he1 h1
      rw [HR.out]
      go_enter Try.func36, Try.ntmps36
      go_wp2_with (first
        | (go_at_call 33; refine (rzcheck_any _ bs _ _ (HL.out.stays bdAt_stays (bel_al (bel_one _ _) _))).mono ?_; rw [HE0.out]; rintro e w1 ⟨rfl, hb1⟩; obtain ⟨hz, hr, hrf, hbw, hsz⟩ := two_cells hb1; clear hb1 hrf)
        | (go_at_call 61; refine (rbound_any N b _).mono ?_; rw [HE1.out]; rintro e w2 ⟨rfl, hb2⟩))
      go_ret2
      exact ⟨rfl, bel_tr hbw hb2⟩
  · have g0 : (e0 != 0) = true := by simpa using h0
    have HR : Hid (impliesR n bs b = (false, e0)) := Lib.hid (by unfold impliesR; rw [he0, if_neg h0])
    clear he0 h0
    rw [HR.out]
    go_enter Try.func36, Try.ntmps36
    go_wp2_with (go_at_call 33; refine (rzcheck_any _ bs _ _ (HL.out.stays bdAt_stays (bel_al (bel_one _ _) _))).mono ?_; rw [HE0.out]; rintro e w1 ⟨rfl, hb1⟩)
    go_ret2
    exact ⟨rfl, bel_tr (bel_al (bel_one _ _) _) hb1⟩

set_option maxRecDepth 100000 in
set_option maxHeartbeats 2000000 in
theorem rtwo_any (na : Int) (xs : List Bd) (nb : Int) (bs : List Bd) (va vb : Value) (w : World) (ha : IsBds w va xs) (hb : IsBds w vb bs) :
    Calls Try.prog 67 #[zoneV na va, zoneV nb vb] w fun e W => e = .returned (.int .i64 (bothErr na xs nb bs)) ∧ Below w.heap.size w W := by
  unfold zoneV
  have HA := Lib.hid ha
  have HB := Lib.hid hb
  obtain ⟨A, ca, rfl, -, -, -⟩ := ha
  obtain ⟨B, cb, rfl, -, -, -⟩ := hb
  obtain ⟨e0, he0⟩ : ∃ e, zoneErr na xs = e := ⟨_, rfl⟩
  obtain ⟨e1, he1⟩ : ∃ e, zoneErr nb bs = e := ⟨_, rfl⟩
  have HE0 := Lib.hid he0
  have HE1 := Lib.hid he1
  have HR : Hid (bothErr na xs nb bs = if e0 = 0 then (if e1 = 0 then (if na = nb then 0 else 15) else e1) else e0) := Lib.hid (by unfold bothErr; rw [he0, he1])
  clear he0 he1
  by_cases h0 : e0 = 0
  · have g0 : (e0 != 0) = false := by simpa using h0
    rw [if_pos h0] at HR
    clear h0
    by_cases h1 : e1 = 0
    · have g1 : (e1 != 0) = false := by simpa using h1
      rw [if_pos h1] at HR
      clear h1
      by_cases h2 : na = nb
      · have g2 : (na != nb) = false := by simpa using h2
        rw [if_pos h2] at HR
        clear h2
        rw [HR.out]
        go_enter Try.func67, Try.ntmps67
        go_wp2_with (go_at_call 33; first
          | (have hno := hbw; clear hno; refine (rzcheck_any nb bs _ _ (HB.out.stays bdAt_stays hbw)).mono ?_; rw [HE1.out]; rintro e w2 ⟨rfl, hb2⟩; have hz2 := arr_keep hz (by omega) hb2; have hr2 := arr_keep hr (by omega) hb2)
          | (refine (rzcheck_any na xs _ _ (HA.out.stays bdAt_stays (bel_al (bel_one _ _) _))).mono ?_; rw [HE0.out]; rintro e w1 ⟨rfl, hb1⟩; obtain ⟨hz, hr, hrf, hbw, hsz⟩ := two_cells hb1; clear hb1 hrf))
        go_ret
        exact ⟨rfl, bel_tr hbw hb2⟩
      · have g2 : (na != nb) = true := by simpa using h2
        rw [if_neg h2] at HR
        clear h2
        rw [HR.out]
        go_enter Try.func67, Try.ntmps67
        go_wp2_with (go_at_call 33; first
          | (have hno := hbw; clear hno; refine (rzcheck_any nb bs _ _ (HB.out.stays bdAt_stays hbw)).mono ?_; rw [HE1.out]; rintro e w2 ⟨rfl, hb2⟩; have hz2 := arr_keep hz (by omega) hb2; have hr2 := arr_keep hr (by omega) hb2)
          | (refine (rzcheck_any na xs _ _ (HA.out.stays bdAt_stays (bel_al (bel_one _ _) _))).mono ?_; rw [HE0.out]; rintro e w1 ⟨rfl, hb1⟩; obtain ⟨hz, hr, hrf, hbw, hsz⟩ := two_cells hb1; clear hb1 hrf))
        go_ret
        exact ⟨rfl, bel_tr hbw hb2⟩
    · have g1 : (e1 != 0) = true := by simpa using h1
      rw [if_neg h1] at HR
      clear h1
      rw [HR.out]
      go_enter Try.func67, Try.ntmps67
      go_wp2_with (go_at_call 33; first
        | (have hno := hbw; clear hno; refine (rzcheck_any nb bs _ _ (HB.out.stays bdAt_stays hbw)).mono ?_; rw [HE1.out]; rintro e w2 ⟨rfl, hb2⟩)
        | (refine (rzcheck_any na xs _ _ (HA.out.stays bdAt_stays (bel_al (bel_one _ _) _))).mono ?_; rw [HE0.out]; rintro e w1 ⟨rfl, hb1⟩; obtain ⟨hz, hr, hrf, hbw, hsz⟩ := two_cells hb1; clear hb1 hrf))
      go_ret
      exact ⟨rfl, bel_tr hbw hb2⟩
  · have g0 : (e0 != 0) = true := by simpa using h0
    rw [if_neg h0] at HR
    clear h0
    rw [HR.out]
    go_enter Try.func67, Try.ntmps67
    go_wp2_with (go_at_call 33; refine (rzcheck_any na xs _ _ (HA.out.stays bdAt_stays (bel_al (bel_one _ _) _))).mono ?_; rw [HE0.out]; rintro e w1 ⟨rfl, hb1⟩)
    go_ret
    exact ⟨rfl, bel_tr (bel_al (bel_one _ _) _) hb1⟩
end Go.Proofs.Ytgecbjjcjemcgaa
