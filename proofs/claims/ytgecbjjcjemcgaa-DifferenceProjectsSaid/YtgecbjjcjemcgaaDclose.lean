/- Close of the program and of the reference; Range of the reference. -/
import Derived.Test.YtgecbjjcjemcgaaDproj
import Derived.Test.YtgecbjjcjemcgaaDrclosed
namespace Go.Proofs.Ytgecbjjcjemcgaa
open Go.RowKit

/-- the zone and the error of closing -/
def closeR (n : Int) (bs : List Bd) : Int × List Bd × Int :=
  if zoneErr n bs = 0 then
    if (closedR n.toNat bs).2 = 0 then (n, (closedR n.toNat bs).1, 0) else (0, [], (closedR n.toNat bs).2)
  else (0, [], zoneErr n bs)

theorem isBds_set {W : World} {v : Value} {l : List Bd} (h : IsBds W v l) {g : Nat} {arr : Array Value} (hr : ∀ i, W.cell? ⟨g, i, none⟩ = arr[i]?) (hs : arr.size ≤ 2) (i j : Nat) (x y : Value) : IsBds ((W.setCell ⟨g, i, none⟩ x).setCell ⟨g, j, none⟩ y) v l := by
  obtain ⟨A, c, rfl, h1, h2, h3⟩ := h
  refine ⟨A, c, rfl, h1, h2, fun k b hk => ?_⟩
  obtain ⟨q, o, hA, h0, h1, h2⟩ := h3 k b hk
  have hne : g ≠ q := by
    intro e
    subst e
    rw [hr, Array.getElem?_eq_none (by omega)] at h2
    cases h2
  exact ⟨q, o, hA, by rw [cell_far hne, cell_far hne]; exact h0, by rw [cell_far hne, cell_far hne]; exact h1, by rw [cell_far hne, cell_far hne]; exact h2⟩

set_option maxRecDepth 100000 in
set_option maxHeartbeats 4000000 in
theorem close_any (n : Int) (hn6 : n ≤ 6) (bs : List Bd) (v : Value) (w : World) (hl : IsBds w v bs) :
    Calls Try.prog 18 #[zoneV n v] w (ZoneRet w (closeR n bs)) := by
  unfold zoneV
  have HL := Lib.hid hl
  obtain ⟨A, c, rfl, -, -, -⟩ := hl
  obtain ⟨e0, he0⟩ : ∃ e, zoneErr n bs = e := ⟨_, rfl⟩
  have HE0 := Lib.hid he0
  by_cases h0 : e0 = 0
  · have g0 : (e0 != 0) = false := by simpa using h0
    obtain ⟨hn1, -, hlen, hgood⟩ := good_of (he0.trans h0)
    have HZ : Hid (zoneErr n bs = 0) := Lib.hid (he0.trans h0)
    obtain ⟨N, rfl⟩ := Int.eq_ofNat_of_zero_le (by omega : 0 ≤ n)
    have HG : Hid (good N bs) := Lib.hid (by rw [Int.toNat_natCast] at hgood; exact hgood)
    clear he0 h0 hgood
    obtain ⟨⟨l, er⟩, hcl⟩ : ∃ r, closedR N bs = r := ⟨_, rfl⟩
    have HCL := Lib.hid hcl
    clear hcl
    by_cases her : er = 0
    · have g1 : (er != 0) = false := by simpa using her
      have HR : Hid (closeR N bs = ((N : Int), l, 0)) := Lib.hid (by
        unfold closeR
        rw [if_pos HZ.out, Int.toNat_natCast, HCL.out]
        simp only
        rw [if_pos her])
      clear her
      go_enter Try.func18, Try.ntmps18
      go_wp2_with (first
        | (go_at_call 32; refine (zcheck_any _ bs _ _ (HL.out.stays bdAt_stays (bel_al (bel_one _ _) _))).mono ?_; rw [HE0.out]; rintro e w1 ⟨rfl, hb1⟩; obtain ⟨hz, hr, hrf, hbw, hsz⟩ := two_cells hb1; clear hb1)
        | (go_at_call 45; refine (closed_any N ⟨by omega, by omega⟩ bs _ _ (HL.out.stays bdAt_stays hbw) HG.out hlen).mono ?_; rw [HCL.out]; rintro e w2 ⟨v2, rfl, hq2, hb2⟩; simp only at hq2; have HQ2 := Lib.hid hq2; obtain ⟨A2, c2, rfl, -, -, -⟩ := hq2; obtain ⟨hr2, hrf2, hsz2⟩ := arr_keep2 hr hrf hsz hb2; have hz2 := arr_keep hz (by omega : w.heap.size < w1.heap.size) hb2; have hsw := hb2.size; have HBW2 := Lib.hid (bel_tr hbw hb2); clear hr hrf hz hbw))
      rw [HR.out]
      refine bodyPost_ret (v := .tuple #[.agg #[.int .i64 (N : Int), .slice A2 l.length c2], .int .i64 0]) (by simp [results, Try.results18, go_sem, hr2]) rfl ⟨_, rfl, ?_, bel_set (bel_set HBW2.out (by omega) _) (by omega) _⟩
      have hbs : Below w.heap.size w w2 := HBW2.out
      simp only
      exact isBds_set HQ2.out hr2 (by decide) _ _ _ _
    · have g1 : (er != 0) = true := by simpa using her
      have HR : Hid (closeR N bs = (0, [], er)) := Lib.hid (by
        unfold closeR
        rw [if_pos HZ.out, Int.toNat_natCast, HCL.out]
        simp only
        rw [if_neg her])
      clear her
      go_enter Try.func18, Try.ntmps18
      go_wp2_with (first
        | (go_at_call 32; refine (zcheck_any _ bs _ _ (HL.out.stays bdAt_stays (bel_al (bel_one _ _) _))).mono ?_; rw [HE0.out]; rintro e w1 ⟨rfl, hb1⟩; obtain ⟨hz, hr, hrf, hbw, hsz⟩ := two_cells hb1; clear hb1)
        | (go_at_call 45; refine (closed_any N ⟨by omega, by omega⟩ bs _ _ (HL.out.stays bdAt_stays hbw) HG.out hlen).mono ?_; rw [HCL.out]; rintro e w2 ⟨v2, rfl, -, hb2⟩; obtain ⟨hr2, hrf2, hsz2⟩ := arr_keep2 hr hrf hsz hb2; have hsw := hb2.size; have HBW2 := Lib.hid (bel_tr hbw hb2); clear hr hrf hbw))
      rw [HR.out]
      exact bodyPost_ret (v := .tuple #[.agg #[.int .i64 0, .slice none 0 0], .int .i64 er]) (by simp [results, Try.results18, go_sem, hr2]) rfl ⟨_, rfl, Sl.nil _ _ _ _ _ (Nat.zero_le _), bel_set (bel_set HBW2.out (by omega) _) (by omega) _⟩
  · have g0 : (e0 != 0) = true := by simpa using h0
    have HR : Hid (closeR n bs = (0, [], e0)) := Lib.hid (by unfold closeR; rw [he0, if_neg h0])
    clear he0 h0
    go_enter Try.func18, Try.ntmps18
    go_wp2_with (go_at_call 32; refine (zcheck_any _ bs _ _ (HL.out.stays bdAt_stays (bel_al (bel_one _ _) _))).mono ?_; rw [HE0.out]; rintro e w1 ⟨rfl, hb1⟩; obtain ⟨hz, hr, hrf, hbw, hsz⟩ := two_cells hb1; clear hb1)
    rw [HR.out]
    exact bodyPost_ret (v := .tuple #[.agg #[.int .i64 0, .slice none 0 0], .int .i64 e0]) (by simp [results, Try.results18, go_sem, hr]) rfl ⟨_, rfl, Sl.nil _ _ _ _ _ (Nat.zero_le _), bel_set (bel_set hbw (by omega) _) (by omega) _⟩

set_option maxRecDepth 100000 in
set_option maxHeartbeats 4000000 in
theorem rclose_any (n : Int) (hn6 : n ≤ 6) (bs : List Bd) (v : Value) (w : World) (hl : IsBds w v bs) :
    Calls Try.prog 19 #[zoneV n v] w (ZoneRet w (closeR n bs)) := by
  unfold zoneV
  have HL := Lib.hid hl
  obtain ⟨A, c, rfl, -, -, -⟩ := hl
  obtain ⟨e0, he0⟩ : ∃ e, zoneErr n bs = e := ⟨_, rfl⟩
  have HE0 := Lib.hid he0
  by_cases h0 : e0 = 0
  · have g0 : (e0 != 0) = false := by simpa using h0
    obtain ⟨hn1, -, hlen, hgood⟩ := good_of (he0.trans h0)
    have HZ : Hid (zoneErr n bs = 0) := Lib.hid (he0.trans h0)
    obtain ⟨N, rfl⟩ := Int.eq_ofNat_of_zero_le (by omega : 0 ≤ n)
    have HG : Hid (good N bs) := Lib.hid (by rw [Int.toNat_natCast] at hgood; exact hgood)
    clear he0 h0 hgood
    obtain ⟨⟨l, er⟩, hcl⟩ : ∃ r, closedR N bs = r := ⟨_, rfl⟩
    have HCL := Lib.hid hcl
    clear hcl
    by_cases her : er = 0
    · have g1 : (er != 0) = false := by simpa using her
      have HR : Hid (closeR N bs = ((N : Int), l, 0)) := Lib.hid (by
        unfold closeR
        rw [if_pos HZ.out, Int.toNat_natCast, HCL.out]
        simp only
        rw [if_pos her])
      clear her
      go_enter Try.func19, Try.ntmps19
      go_wp2_with (first
        | (go_at_call 33; refine (rzcheck_any _ bs _ _ (HL.out.stays bdAt_stays (bel_al (bel_one _ _) _))).mono ?_; rw [HE0.out]; rintro e w1 ⟨rfl, hb1⟩; obtain ⟨hz, hr, hrf, hbw, hsz⟩ := two_cells hb1; clear hb1)
        | (go_at_call 46; refine (rclosed_any N ⟨by omega, by omega⟩ bs _ _ (HL.out.stays bdAt_stays hbw) HG.out hlen).mono ?_; rw [HCL.out]; rintro e w2 ⟨v2, rfl, hq2, hb2⟩; simp only at hq2; have HQ2 := Lib.hid hq2; obtain ⟨A2, c2, rfl, -, -, -⟩ := hq2; obtain ⟨hr2, hrf2, hsz2⟩ := arr_keep2 hr hrf hsz hb2; have hz2 := arr_keep hz (by omega : w.heap.size < w1.heap.size) hb2; have hsw := hb2.size; have HBW2 := Lib.hid (bel_tr hbw hb2); clear hr hrf hz hbw))
      rw [HR.out]
      refine bodyPost_ret (v := .tuple #[.agg #[.int .i64 (N : Int), .slice A2 l.length c2], .int .i64 0]) (by simp [results, Try.results19, go_sem, hr2]) rfl ⟨_, rfl, ?_, bel_set (bel_set HBW2.out (by omega) _) (by omega) _⟩
      have hbs : Below w.heap.size w w2 := HBW2.out
      simp only
      exact isBds_set HQ2.out hr2 (by decide) _ _ _ _
    · have g1 : (er != 0) = true := by simpa using her
      have HR : Hid (closeR N bs = (0, [], er)) := Lib.hid (by
        unfold closeR
        rw [if_pos HZ.out, Int.toNat_natCast, HCL.out]
        simp only
        rw [if_neg her])
      clear her
      go_enter Try.func19, Try.ntmps19
      go_wp2_with (first
        | (go_at_call 33; refine (rzcheck_any _ bs _ _ (HL.out.stays bdAt_stays (bel_al (bel_one _ _) _))).mono ?_; rw [HE0.out]; rintro e w1 ⟨rfl, hb1⟩; obtain ⟨hz, hr, hrf, hbw, hsz⟩ := two_cells hb1; clear hb1)
        | (go_at_call 46; refine (rclosed_any N ⟨by omega, by omega⟩ bs _ _ (HL.out.stays bdAt_stays hbw) HG.out hlen).mono ?_; rw [HCL.out]; rintro e w2 ⟨v2, rfl, -, hb2⟩; obtain ⟨hr2, hrf2, hsz2⟩ := arr_keep2 hr hrf hsz hb2; have hsw := hb2.size; have HBW2 := Lib.hid (bel_tr hbw hb2); clear hr hrf hbw))
      rw [HR.out]
      exact bodyPost_ret (v := .tuple #[.agg #[.int .i64 0, .slice none 0 0], .int .i64 er]) (by simp [results, Try.results19, go_sem, hr2]) rfl ⟨_, rfl, Sl.nil _ _ _ _ _ (Nat.zero_le _), bel_set (bel_set HBW2.out (by omega) _) (by omega) _⟩
  · have g0 : (e0 != 0) = true := by simpa using h0
    have HR : Hid (closeR n bs = (0, [], e0)) := Lib.hid (by unfold closeR; rw [he0, if_neg h0])
    clear he0 h0
    go_enter Try.func19, Try.ntmps19
    go_wp2_with (go_at_call 33; refine (rzcheck_any _ bs _ _ (HL.out.stays bdAt_stays (bel_al (bel_one _ _) _))).mono ?_; rw [HE0.out]; rintro e w1 ⟨rfl, hb1⟩; obtain ⟨hz, hr, hrf, hbw, hsz⟩ := two_cells hb1; clear hb1)
    rw [HR.out]
    exact bodyPost_ret (v := .tuple #[.agg #[.int .i64 0, .slice none 0 0], .int .i64 e0]) (by simp [results, Try.results19, go_sem, hr]) rfl ⟨_, rfl, Sl.nil _ _ _ _ _ (Nat.zero_le _), bel_set (bel_set hbw (by omega) _) (by omega) _⟩
end Go.Proofs.Ytgecbjjcjemcgaa
