/- Implies, Inside and Meet of the program. -/
import Derived.Test.YtgecbjjcjemcgaaDimpl
import Derived.Test.YtgecbjjcjemcgaaDlaw
namespace Go.Proofs.Ytgecbjjcjemcgaa
open Go.RowKit

def bothErr (na : Int) (xs : List Bd) (nb : Int) (bs : List Bd) : Int :=
  if zoneErr na xs = 0 then (if zoneErr nb bs = 0 then (if na = nb then 0 else 15) else zoneErr nb bs) else zoneErr na xs
def impliesR (n : Int) (bs : List Bd) (b : Bd) : Bool × Int :=
  if zoneErr n bs = 0 then (if boundErr n b = 0 then (hasB n.toNat bs b, 0) else (false, boundErr n b)) else (false, zoneErr n bs)
theorem boundErr_in {n : Nat} {b : Bd} (h : boundErr n b = 0) : inB n b := by
  unfold boundErr boundBad at h
  split at h
  · cases h
  · rename_i hb
    simp only [Bool.or_eq_true, decide_eq_true_eq, not_or] at hb
    exact ⟨by omega, by omega, by omega, by omega⟩

theorem keep5 {w W : World} {p1 p2 p3 p4 p5 : Nat × Nat} {v1 v2 v3 v4 v5 : Value} (hb : Below w.heap.size w W) (h : w.cell? ⟨p1.1, p1.2, none⟩ = some v1 ∧ w.cell? ⟨p2.1, p2.2, none⟩ = some v2 ∧ w.cell? ⟨p3.1, p3.2, none⟩ = some v3 ∧ w.cell? ⟨p4.1, p4.2, none⟩ = some v4 ∧ w.cell? ⟨p5.1, p5.2, none⟩ = some v5) :
    W.cell? ⟨p1.1, p1.2, none⟩ = some v1 ∧ W.cell? ⟨p2.1, p2.2, none⟩ = some v2 ∧ W.cell? ⟨p3.1, p3.2, none⟩ = some v3 ∧ W.cell? ⟨p4.1, p4.2, none⟩ = some v4 ∧ W.cell? ⟨p5.1, p5.2, none⟩ = some v5 ∧ Below w.heap.size w W :=
  ⟨cell_stays hb h.1, cell_stays hb h.2.1, cell_stays hb h.2.2.1, cell_stays hb h.2.2.2.1, cell_stays hb h.2.2.2.2, hb⟩

set_option maxRecDepth 100000 in
set_option maxHeartbeats 2000000 in
theorem implies_any (n : Int) (hn6 : n ≤ 6) (bs : List Bd) (v : Value) (b : Bd) (w : World) (hl : IsBds w v bs) :
    Calls Try.prog 35 #[zoneV n v, bdV b] w fun e W => e = .returned (.tuple #[.bool (impliesR n bs b).1, .int .i64 (impliesR n bs b).2]) ∧ Below w.heap.size w W := by
  unfold zoneV bdV
  have HL := Lib.hid hl
  obtain ⟨A, c, rfl, -, -, -⟩ := hl
  obtain ⟨e0, he0⟩ : ∃ e, zoneErr n bs = e := ⟨_, rfl⟩
  have HE0 := Lib.hid he0
  by_cases h0 : e0 = 0
  · have g0 : (e0 != 0) = false := by simpa using h0
    obtain ⟨hn1, -, hlen, hgood⟩ := good_of (he0.trans h0)
    have HZ : Hid (zoneErr n bs = 0) := Lib.hid (he0.trans h0)
    obtain ⟨N, rfl⟩ := Int.eq_ofNat_of_zero_le (by omega : 0 ≤ n)
    have HG : Hid (good N bs) := Lib.hid (by rw [Int.toNat_natCast] at hgood; exact hgood)
    clear he0 h0 hgood
    obtain ⟨e1, he1⟩ : ∃ e, boundErr N b = e := ⟨_, rfl⟩
    have HE1 := Lib.hid he1
    by_cases h1 : e1 = 0
    · have g1 : (e1 != 0) = false := by simpa using h1
      have HIN := Lib.hid (boundErr_in (he1.trans h1))
      obtain ⟨r, hr⟩ : ∃ r, hasB N bs b = r := ⟨_, rfl⟩
      have HH := Lib.hid hr
      have HR : Hid (impliesR N bs b = (r, 0)) := Lib.hid (by unfold impliesR; rw [if_pos HZ.out, if_pos (he1.trans h1), Int.toNat_natCast, hr])
      clear he1 h1 hr
      rw [HR.out]
      go_enter Try.func35, Try.ntmps35
      go_wp2_with (first
        | (go_at_call 32; refine (zcheck_any _ bs _ _ (HL.out.stays bdAt_stays (bel_al (bel_one _ _) _))).mono ?_; rw [HE0.out]; rintro e w1 ⟨rfl, hb1⟩; obtain ⟨hz, hr, hrf, hbw, hsz⟩ := two_cells hb1; clear hb1 hrf)
        | (go_at_call 60; refine (check_any N b _).mono ?_; rw [HE1.out]; rintro e w2 ⟨rfl, hb2⟩; have hz2 := arr_keep hz (by omega) hb2; have hr2 := arr_keep hr (by omega) hb2; have hbw2 := bel_tr hbw hb2; have hsz2 : w.heap.size + 1 < w2.heap.size := (by have := hb2.size; omega); clear hz hr hbw hb2))
      have z0 : w2.cell? ⟨w.heap.size, 0, none⟩ = some (.int .i64 (N : Int)) := hz2 0
      have z1 : w2.cell? ⟨w.heap.size, 1, none⟩ = some (.slice A bs.length c) := hz2 1
      have b0 : w2.cell? ⟨w.heap.size + 1, 0, none⟩ = some (.int .i64 b.x) := hr2 0
      have b1 : w2.cell? ⟨w.heap.size + 1, 1, none⟩ = some (.int .i64 b.y) := hr2 1
      have b2 : w2.cell? ⟨w.heap.size + 1, 2, none⟩ = some (.int .i64 b.most) := hr2 2
      clear hz2 hr2
      go_region_held3 (fun W => W.cell? ⟨w.heap.size, 0, none⟩ = some (.int .i64 (N : Int)) ∧ W.cell? ⟨w.heap.size, 1, none⟩ = some (.slice A bs.length c) ∧ W.cell? ⟨w.heap.size + 1, 0, none⟩ = some (.int .i64 b.x) ∧ W.cell? ⟨w.heap.size + 1, 1, none⟩ = some (.int .i64 b.y) ∧ W.cell? ⟨w.heap.size + 1, 2, none⟩ = some (.int .i64 b.most) ∧ Below w2.heap.size w2 W) (with_reducible exact keep5 (p1 := (w.heap.size, 0)) (p2 := (w.heap.size, 1)) (p3 := (w.heap.size + 1, 0)) (p4 := (w.heap.size + 1, 1)) (p5 := (w.heap.size + 1, 2)) (by repeat (first | with_reducible exact Below.refl _ _ | assumption | with_reducible refine Below.drew ?_ | with_reducible refine bel_tr ?_ (by assumption))) ⟨z0, z1, b0, b1, b2⟩) (first
        | (go_at_call 63; refine (implied_any N ⟨by omega, by omega⟩ bs _ _ (HL.out.stays bdAt_stays (bel_tr hbw2 (Below.refl _ _).drew)) HG.out hlen).mono ?_; rintro e w3 ⟨g, caps, rfl, ⟨eg, hd⟩, hb3'⟩; have hb3 : Below w2.heap.size w2 w3 := bel_tr (Below.refl _ _).drew hb3'; clear hb3')
        | (refine (hd _ b (Below.refl _ _) HIN.out).mono ?_; rw [HH.out]; rintro e w4 ⟨rfl, hb4⟩))
      all_goals
        go_wp2_with fail
        go_ret2
        exact ⟨rfl, bel_tr (bel_tr hbw2 hb3) hb4⟩
    · have g1 : (e1 != 0) = true := by simpa using h1
      have HR : Hid (impliesR N bs b = (false, e1)) := Lib.hid (by unfold impliesR; rw [if_pos HZ.out, he1, if_neg h1])
      clear he1 h1
      rw [HR.out]
      go_enter Try.func35, Try.ntmps35
      go_wp2_with (first
        | (go_at_call 32; refine (zcheck_any _ bs _ _ (HL.out.stays bdAt_stays (bel_al (bel_one _ _) _))).mono ?_; rw [HE0.out]; rintro e w1 ⟨rfl, hb1⟩; obtain ⟨hz, hr, hrf, hbw, hsz⟩ := two_cells hb1; clear hb1 hrf)
        | (go_at_call 60; refine (check_any N b _).mono ?_; rw [HE1.out]; rintro e w2 ⟨rfl, hb2⟩))
      go_ret2
      exact ⟨rfl, bel_tr hbw hb2⟩
  · have g0 : (e0 != 0) = true := by simpa using h0
    have HR : Hid (impliesR n bs b = (false, e0)) := Lib.hid (by unfold impliesR; rw [he0, if_neg h0])
    clear he0 h0
    rw [HR.out]
    go_enter Try.func35, Try.ntmps35
    go_wp2_with (go_at_call 32; refine (zcheck_any _ bs _ _ (HL.out.stays bdAt_stays (bel_al (bel_one _ _) _))).mono ?_; rw [HE0.out]; rintro e w1 ⟨rfl, hb1⟩)
    go_ret2
    exact ⟨rfl, bel_tr (bel_al (bel_one _ _) _) hb1⟩

set_option maxRecDepth 100000 in
set_option maxHeartbeats 2000000 in
theorem both_any (na : Int) (xs : List Bd) (nb : Int) (bs : List Bd) (va vb : Value) (w : World) (ha : IsBds w va xs) (hb : IsBds w vb bs) :
    Calls Try.prog 65 #[zoneV na va, zoneV nb vb] w fun e W => e = .returned (.int .i64 (bothErr na xs nb bs)) ∧ Below w.heap.size w W := by
  unfold zoneV
  have HA := Lib.hid ha
  have HB := Lib.hid hb
  obtain ⟨A, ca, rfl, -, -, -⟩ := ha
  obtain ⟨B, cb, rfl, -, -, -⟩ := hb
  obtain ⟨e0, he0⟩ : ∃ e, zoneErr na xs = e := ⟨_, rfl⟩
  obtain ⟨e1, he1⟩ : ∃ e, zoneErr nb bs = e := ⟨_, rfl⟩
  have HE0 := Lib.hid he0
  have HE1 := Lib.hid he1
  have HR : Hid (bothErr na xs nb bs = if e0 = 0 then (if e1 = 0 then (if na = nb then 0 else 15) else e1) else e0) := Lib.hid (by unfold bothErr; rw [he0, he1])
  clear he0 he1
  go_enter Try.func65, Try.ntmps65
  go_wp2_with fail
  refine wp_gen ?_
  intro W0 hW0
  have hb0 : Below w.heap.size w W0 := by rw [hW0]; exact bel_al (bel_al (bel_one _ _) _) _
  have a0 : W0.cell? ⟨w.heap.size, 0, none⟩ = some (.int .i64 na) := by rw [hW0]; go_simp
  have b0 : W0.cell? ⟨w.heap.size + 1, 0, none⟩ = some (.int .i64 nb) := by rw [hW0]; go_simp
  have q0 : W0.cell? ⟨w.heap.size + 1 + 1, 0, none⟩ = some (.int .i64 na) := by rw [hW0]; go_simp
  have q1 : W0.cell? ⟨w.heap.size + 1 + 1, 1, none⟩ = some (.slice A xs.length ca) := by rw [hW0]; go_simp
  have q2 : W0.cell? ⟨w.heap.size + 1 + 1, 2, none⟩ = some (.int .i64 nb) := by rw [hW0]; go_simp
  have q3 : W0.cell? ⟨w.heap.size + 1 + 1, 3, none⟩ = some (.slice B bs.length cb) := by rw [hW0]; go_simp
  clear hW0
  go_loopw [12] (fun i wr => ∃ k : Nat, k ≤ 2 ∧ i = .int .i64 k ∧ Hid ((1 ≤ k → e0 = 0) ∧ (2 ≤ k → e1 = 0)) ∧ Below W0.heap.size W0 wr) (fun i _ => 2 - (intOf i).toNat)
  case atStart => exact ⟨0, Nat.zero_le _, rfl, Lib.hid ⟨fun h => absurd h (by omega), fun h => absurd h (by omega)⟩, Below.refl _ _⟩
  case round =>
    obtain ⟨k, hk, rfl, hi, hb⟩ := hrel
    have hk3 : k = 0 ∨ k = 1 ∨ k = 2 := by omega
    clear hk
    rcases hk3 with rfl | rfl | rfl
    · replace q0 := cell_stays hb q0
      replace q1 := cell_stays hb q1
      have hl : w.heap.size + 1 + 1 < wr.heap.size := World.block_lt_of_cell? wr _ q0
      by_cases h0 : e0 = 0
      · have g0 : (e0 != 0) = false := by simpa using h0
        have H0 := Lib.hid h0
        clear h0
        go_wp2_with (go_at_call 32; refine (zcheck_any na xs _ _ (HA.out.stays bdAt_stays (bel_al (bel_tr hb0 hb) _))).mono ?_; rw [HE0.out]; rintro e w5 ⟨rfl, hb5⟩)
        go_roundw
        case rel => exact ⟨1, by omega, by go_num, Lib.hid ⟨fun _ => H0.out, fun h => absurd h (by omega)⟩, bel_tr (bel_al hb _) hb5⟩
        case measure => simp [intOf]
      · have g0 : (e0 != 0) = true := by simpa using h0
        have H0 := Lib.hid h0
        clear h0
        go_wp2_with (go_at_call 32; refine (zcheck_any na xs _ _ (HA.out.stays bdAt_stays (bel_al (bel_tr hb0 hb) _))).mono ?_; rw [HE0.out]; rintro e w5 ⟨rfl, hb5⟩)
        go_ret
        rw [HR.out, if_neg H0.out]
        exact ⟨rfl, bel_tr (bel_al (bel_tr hb0 hb) _) hb5⟩
    · replace q2 := cell_stays hb q2
      replace q3 := cell_stays hb q3
      have hl : w.heap.size + 1 + 1 < wr.heap.size := World.block_lt_of_cell? wr _ q2
      have H0 : Hid (e0 = 0) := Lib.hid (hi.out.1 (by omega))
      by_cases h1 : e1 = 0
      · have g1 : (e1 != 0) = false := by simpa using h1
        have H1 := Lib.hid h1
        clear h1
        go_wp2_with (go_at_call 32; refine (zcheck_any nb bs _ _ (HB.out.stays bdAt_stays (bel_al (bel_tr hb0 hb) _))).mono ?_; rw [HE1.out]; rintro e w5 ⟨rfl, hb5⟩)
        go_roundw
        case rel => exact ⟨2, by omega, by go_num, Lib.hid ⟨fun _ => H0.out, fun _ => H1.out⟩, bel_tr (bel_al hb _) hb5⟩
        case measure => simp [intOf]
      · have g1 : (e1 != 0) = true := by simpa using h1
        have H1 := Lib.hid h1
        clear h1
        go_wp2_with (go_at_call 32; refine (zcheck_any nb bs _ _ (HB.out.stays bdAt_stays (bel_al (bel_tr hb0 hb) _))).mono ?_; rw [HE1.out]; rintro e w5 ⟨rfl, hb5⟩)
        go_ret
        rw [HR.out, if_pos H0.out, if_neg H1.out]
        exact ⟨rfl, bel_tr (bel_al (bel_tr hb0 hb) _) hb5⟩
    · have H0 : Hid (e0 = 0) := Lib.hid (hi.out.1 (by omega))
      have H1 : Hid (e1 = 0) := Lib.hid (hi.out.2 (by omega))
      replace a0 := cell_stays hb a0
      replace b0 := cell_stays hb b0
      by_cases h2 : na = nb
      · have g2 : (na != nb) = false := by simpa using h2
        have H2 := Lib.hid h2
        clear h2
        go_wp2_with fail
        go_ret
        rw [HR.out, if_pos H0.out, if_pos H1.out, if_pos H2.out]
        exact ⟨rfl, bel_tr hb0 hb⟩
      · have g2 : (na != nb) = true := by simpa using h2
        have H2 := Lib.hid h2
        clear h2
        go_wp2_with fail
        go_ret
        rw [HR.out, if_pos H0.out, if_pos H1.out, if_neg H2.out]
        exact ⟨rfl, bel_tr hb0 hb⟩
end Go.Proofs.Ytgecbjjcjemcgaa
