/- Whether indices of bounds are a contradiction, as the program decides. -/
import Derived.Test.YtgecbjjcjemcgaaDver
import Derived.Test.YtgecbjjcjemcgaaDindex
import Derived.Test.YtgecbjjcjemcgaaDrange
import Derived.StillTailTactics
namespace Go.Proofs.Ytgecbjjcjemcgaa
open Go.RowKit

def outI (m : Nat) (i : Int) : Bool := decide (i < 0) || decide ((m : Int) ≤ i)
theorem out_any (i : Int) (q : Nat) (A : Option Addr) (m c : Nat) (W : World) (h1 : W.cell? ⟨q, 1, none⟩ = some (.slice A m c)) :
    Calls Try.prog 62 #[.int .i64 i, .pointer (some ⟨q, 0, none⟩)] W fun e W' => e = .returned (.bool (outI m i)) ∧ Below W.heap.size W W' := by
  go_enter Try.func62, Try.ntmps62
  go_wp2
  all_goals
    go_ret
    refine ⟨?_, (by repeat (first | exact Below.refl _ _ | assumption | refine Below.drew ?_ | refine bel_al ?_ _ | refine bel_set ?_ (by omega) _ | refine bel_tr ?_ (by assumption)))⟩
    try congr 2
    try unfold outI
    try (first | (simp_all; done) | (simp_all; omega))
theorem enter_out (args : Array Value) (W : World) : (callFunc 62 args).run Try.prog W = .ok (.enter 62 args) W := by rfl

set_option maxRecDepth 100000 in
set_option maxHeartbeats 4000000 in
theorem verify_any (n : Int) (bs : List Bd) (v : Value) (c : List Int) (vc : Value) (w : World) (hl : IsBds w v bs) (hc : IsInts w vc c) :
    Calls Try.prog 34 #[zoneV n v, vc] w fun e w' => e = .returned (.int .i64 (verifyR n bs c)) ∧ Below w.heap.size w w' := by
  unfold zoneV
  have HL := Lib.hid hl
  have HC := Lib.hid hc
  obtain ⟨A, ca, rfl, -, -, hat⟩ := hl
  obtain ⟨B, cb, rfl, hc1, hc2, hbt⟩ := hc
  have HAT := Lib.hid hat
  have HBT := Lib.hid hbt
  have hn := len_i64 hc1 hc2
  clear hat hbt hc1 hc2
  obtain ⟨e0, he0⟩ : ∃ e, zoneErr n bs = e := ⟨_, rfl⟩
  have HE0 := Lib.hid he0
  by_cases h0 : e0 = 0
  · have g0 : (e0 != 0) = false := by simpa using h0
    obtain ⟨hn1, -, hlen, hgood⟩ := good_of (he0.trans h0)
    have HZ : Hid (zoneErr n bs = 0) := Lib.hid (he0.trans h0)
    have HG := Lib.hid hgood
    clear he0 h0 hgood
    by_cases h15 : (c.length : Int) = 0 ∨ 256 < (c.length : Int)
    · have HR : Hid (verifyR n bs c = 15) := Lib.hid (by unfold verifyR; rw [if_pos HZ.out, if_pos h15])
      rw [HR.out]
      by_cases hz : (c.length : Int) = 0
      · have gz : ((c.length : Int) == 0) = true := by simpa using hz
        clear h15 hz
        go_enter Try.func34, Try.ntmps34
        go_wp2_with (go_at_call 32; refine (zcheck_any _ bs _ _ (HL.out.stays bdAt_stays (bel_one _ _))).mono ?_; rw [HE0.out]; rintro e w1 ⟨rfl, hb1⟩)
        go_ret
        exact ⟨rfl, bel_tr (bel_one _ _) hb1⟩
      · have gz : ((c.length : Int) == 0) = false := by simpa using hz
        have h256 : 256 < (c.length : Int) := by omega
        clear h15 hz
        go_enter Try.func34, Try.ntmps34
        go_wp2_with (go_at_call 32; refine (zcheck_any _ bs _ _ (HL.out.stays bdAt_stays (bel_one _ _))).mono ?_; rw [HE0.out]; rintro e w1 ⟨rfl, hb1⟩)
        go_ret
        exact ⟨rfl, bel_tr (bel_one _ _) hb1⟩
    · have H15 := Lib.hid h15
      have gz : ((c.length : Int) == 0) = false := by rw [beq_eq_false_iff_ne]; omega
      have h256 : ¬ 256 < (c.length : Int) := by omega
      have hl1 : 1 ≤ c.length := by omega
      clear h15
      obtain ⟨ib, hib⟩ : ∃ b, c.any (outI bs.length) = b := ⟨_, rfl⟩
      have HIB : Hid (idxBad bs c = ib) := Lib.hid hib
      have HIC : Hid (c.any (outI bs.length) = ib) := Lib.hid hib
      clear hib
      cases ib with
      | true =>
        have HR : Hid (verifyR n bs c = 2) := Lib.hid (by unfold verifyR; rw [if_pos HZ.out, if_neg H15.out, if_pos HIB.out])
        rw [HR.out]
        go_enter Try.func34, Try.ntmps34
        go_wp2_with (first
          | (go_at_call 32; refine (zcheck_any _ bs _ _ (HL.out.stays bdAt_stays (bel_one _ _))).mono ?_; rw [HE0.out]; rintro e w1 ⟨rfl, hb1⟩; obtain ⟨hz, -⟩ := new_cells hb1; have hbw0 := bel_tr (bel_one _ _) hb1; have z1 : w1.cell? ⟨w.heap.size, 1, none⟩ = some (.slice A bs.length ca) := hz 1; clear hb1 hz)
          | (go_at_call 54; refine (containsInts_any 62 [.pointer (some ⟨w.heap.size, 0, none⟩)] (outI bs.length) c _ _ (HC.out.stays intAt_stays hbw0) enter_out (fun W x hW _ => out_any x _ _ _ _ W (cell_stays hW z1))).mono ?_; rw [HIC.out]; rintro e w2 ⟨rfl, hb2⟩))
        go_ret
        exact ⟨rfl, bel_tr hbw0 hb2⟩
      | false =>
        have HI := Lib.hid (idxBad_ok HIB.out)
        have HS := Lib.hid (sumC_bound HG.out HI.out)
        go_enter Try.func34, Try.ntmps34
        go_wp2_with (first
          | (go_at_call 32; refine (zcheck_any _ bs _ _ (HL.out.stays bdAt_stays (bel_one _ _))).mono ?_; rw [HE0.out]; rintro e w1 ⟨rfl, hb1⟩; obtain ⟨hz, -⟩ := new_cells hb1; have hbw1 := bel_tr (bel_one _ _) hb1; have z1 : w1.cell? ⟨w.heap.size, 1, none⟩ = some (.slice A bs.length ca) := hz 1; clear hb1 hz)
          | (go_at_call 54; refine (containsInts_any 62 [.pointer (some ⟨w.heap.size, 0, none⟩)] (outI bs.length) c _ _ (HC.out.stays intAt_stays hbw1) enter_out (fun W x hW _ => out_any x _ _ _ _ W (cell_stays hW z1))).mono ?_; rw [HIC.out]; rintro e w2 ⟨rfl, hb2⟩; have hbw0 := bel_tr hbw1 hb2; replace z1 := cell_stays hb2 z1; clear hb2 hbw1))
        go_loopw [6, 31] (fun s i wr => ∃ k : Nat, k ≤ c.length ∧ i = .int .i64 k ∧ s = .int .i64 (sumC bs c k) ∧ Hid (∀ j, j < k → linkB bs c j = true) ∧ Below w2.heap.size w2 wr) (fun _ i _ => c.length - (intOf i).toNat)
        case atStart => exact ⟨0, Nat.zero_le _, rfl, rfl, Lib.hid (fun j hj => by omega), Below.refl _ _⟩
        case round =>
          obtain ⟨k, hk, rfl, rfl, hlk, hb⟩ := hrel
          by_cases hlt : k < c.length
          · have hlt' : (k : Int) < (c.length : Int) := by omega
            obtain ⟨R, hR⟩ : ∃ R, R = (k + 1) % c.length := ⟨_, rfl⟩
            have hRl : R < c.length := by rw [hR]; exact Nat.mod_lt _ (by omega)
            have hRi : (R : Int) < (c.length : Int) := by omega
            have hmod : Int.tmod ((k : Int) + 1) (c.length : Int) = (R : Int) := by rw [hR, Int.tmod_eq_emod_of_nonneg (by omega), Int.natCast_emod]; rfl
            have HR := Lib.hid hR
            clear hR
            obtain ⟨i1, hi1⟩ := Int.eq_ofNat_of_zero_le (HI.out k hlt).1
            obtain ⟨i2, hi2⟩ := Int.eq_ofNat_of_zero_le (HI.out R hRl).1
            have hl1 : i1 < bs.length := by have := (HI.out k hlt).2; omega
            have hl2 : i2 < bs.length := by have := (HI.out R hRl).2; omega
            obtain ⟨gb, ob, rfl, q1⟩ := HBT.out k _ (gd_at hlt)
            obtain ⟨gb', ob', hA1, q2⟩ := HBT.out R _ (gd_at hRl)
            injection hA1 with hA1
            injection hA1 with ea eb
            subst ea eb
            rw [hi1] at q1
            rw [hi2] at q2
            simp only [Nat.mul_one] at q1 q2
            obtain ⟨ga, oa, rfl, p0, p1, p2⟩ := HAT.out i1 _ (bdI_get hl1)
            obtain ⟨ga', oa', hA1, r0, r1, r2⟩ := HAT.out i2 _ (bdI_get hl2)
            injection hA1 with hA1
            injection hA1 with ea eb
            subst ea eb
            have hbw := bel_tr hbw0 hb
            replace q1 : wr.cell? ⟨gb, ob + k, none⟩ = some (.int .i64 (i1 : Int)) := cell_stays hbw q1
            replace q2 : wr.cell? ⟨gb, ob + R, none⟩ = some (.int .i64 (i2 : Int)) := cell_stays hbw q2
            replace p0 := cell_stays hbw p0
            replace p1 := cell_stays hbw p1
            replace p2 := cell_stays hbw p2
            replace r0 := cell_stays hbw r0
            replace r1 := cell_stays hbw r1
            replace r2 := cell_stays hbw r2
            have y1 := cell_stays hb z1
            obtain ⟨b1, hb1⟩ : ∃ b, b = bdI bs (i1 : Int) := ⟨_, rfl⟩
            obtain ⟨b2, hb2⟩ : ∃ b, b = bdI bs (i2 : Int) := ⟨_, rfl⟩
            rw [← hb1] at p0 p1 p2
            rw [← hb2] at r0 r1 r2
            have hll1 : (i1 : Int) < (bs.length : Int) := by omega
            have hll2 : (i2 : Int) < (bs.length : Int) := by omega
            have hc0 : ¬ (c.length : Int) = 0 := by omega
            have hc0' : ¬ c.length = 0 := by omega
            have hw1 : IntKind.i64.wrap ((k : Int) + 1) = (k : Int) + 1 := IntWalk.i64_in _ (by omega)
            have hw2 : IntKind.i64.wrap (R : Int) = (R : Int) := IntWalk.i64_in _ (by omega)
            have HB1 : Hid (b1 = bdI bs (gd c k)) := Lib.hid (by rw [hi1]; exact hb1)
            have HB2 : Hid (b2 = bdI bs (nxtI c k)) := Lib.hid (by unfold nxtI; rw [← HR.out, hi2]; exact hb2)
            have hsk := HS.out k hk
            have hsk1 := HS.out (k + 1) (by omega)
            have HSS : Hid (sumC bs c (k + 1) = sumC bs c k + b1.most) := Lib.hid (by rw [HB1.out]; rfl)
            have hw3 : IntKind.i64.wrap (sumC bs c k + b1.most) = sumC bs c k + b1.most := IntWalk.i64_in _ (by rw [← HSS.out]; omega)
            clear hb1 hb2 hi1 hi2 hsk hsk1
            by_cases hy : b1.y = b2.x
            · have g2 : (b1.y != b2.x) = false := by simpa using hy
              have HLK : Hid (linkB bs c k = true) := Lib.hid (by unfold linkB; rw [← HB1.out, ← HB2.out, hy]; simp)
              clear hy
              go_wp2_with fail
              go_region_held3 (fun W => W.cell? ⟨w.heap.size, 1, none⟩ = some (.slice (some ⟨ga, oa, none⟩) bs.length ca) ∧ W.cell? ⟨gb, ob + k, none⟩ = some (.int .i64 (i1 : Int)) ∧ W.cell? ⟨gb, ob + R, none⟩ = some (.int .i64 (i2 : Int)) ∧ W.cell? ⟨ga, oa + i1 * 3, none⟩ = some (.int .i64 b1.x) ∧ W.cell? ⟨ga, oa + i1 * 3 + 1, none⟩ = some (.int .i64 b1.y) ∧ W.cell? ⟨ga, oa + i1 * 3 + 2, none⟩ = some (.int .i64 b1.most) ∧ W.cell? ⟨ga, oa + i2 * 3, none⟩ = some (.int .i64 b2.x) ∧ W.cell? ⟨ga, oa + i2 * 3 + 1, none⟩ = some (.int .i64 b2.y) ∧ W.cell? ⟨ga, oa + i2 * 3 + 2, none⟩ = some (.int .i64 b2.most)) (with_reducible exact cells9 (p1 := (w.heap.size, 1)) (p2 := (gb, ob + k)) (p3 := (gb, ob + R)) (p4 := (ga, oa + i1 * 3)) (p5 := (ga, oa + i1 * 3 + 1)) (p6 := (ga, oa + i1 * 3 + 2)) (p7 := (ga, oa + i2 * 3)) (p8 := (ga, oa + i2 * 3 + 1)) (p9 := (ga, oa + i2 * 3 + 2)) (by repeat (first | with_reducible exact Below.refl _ _ | assumption | with_reducible refine Below.drew ?_ | with_reducible refine bel_al ?_ _ | with_reducible refine bel_tr ?_ (by assumption))) ⟨y1, q1, q2, p0, p1, p2, r0, r1, r2⟩) (fail)
              all_goals
                go_wp2_with fail
                go_roundw
                case rel => exact ⟨k + 1, by omega, by go_num, by rw [HSS.out], Lib.hid (fun j hj => by rcases Nat.lt_or_eq_of_le (Nat.le_of_lt_succ hj) with h | h; exact hlk.out j h; rw [h]; exact HLK.out), (bel_al (bel_al hb _) _).drew⟩
                case measure => simp [intOf]; omega
            · have g2 : (b1.y != b2.x) = true := by simpa using hy
              have HNO := Lib.hid (provesB_no hlt (by unfold linkB; rw [← HB1.out, ← HB2.out]; simpa using hy))
              have HVR : Hid (verifyR n bs c = 18) := Lib.hid (by unfold verifyR; rw [if_pos HZ.out, if_neg H15.out, HIB.out, HNO.out]; rfl)
              clear hy
              go_wp2_with fail
              go_region_held3 (fun W => W.cell? ⟨w.heap.size, 1, none⟩ = some (.slice (some ⟨ga, oa, none⟩) bs.length ca) ∧ W.cell? ⟨gb, ob + k, none⟩ = some (.int .i64 (i1 : Int)) ∧ W.cell? ⟨gb, ob + R, none⟩ = some (.int .i64 (i2 : Int)) ∧ W.cell? ⟨ga, oa + i1 * 3, none⟩ = some (.int .i64 b1.x) ∧ W.cell? ⟨ga, oa + i1 * 3 + 1, none⟩ = some (.int .i64 b1.y) ∧ W.cell? ⟨ga, oa + i1 * 3 + 2, none⟩ = some (.int .i64 b1.most) ∧ W.cell? ⟨ga, oa + i2 * 3, none⟩ = some (.int .i64 b2.x) ∧ W.cell? ⟨ga, oa + i2 * 3 + 1, none⟩ = some (.int .i64 b2.y) ∧ W.cell? ⟨ga, oa + i2 * 3 + 2, none⟩ = some (.int .i64 b2.most)) (with_reducible exact cells9 (p1 := (w.heap.size, 1)) (p2 := (gb, ob + k)) (p3 := (gb, ob + R)) (p4 := (ga, oa + i1 * 3)) (p5 := (ga, oa + i1 * 3 + 1)) (p6 := (ga, oa + i1 * 3 + 2)) (p7 := (ga, oa + i2 * 3)) (p8 := (ga, oa + i2 * 3 + 1)) (p9 := (ga, oa + i2 * 3 + 2)) (by repeat (first | with_reducible exact Below.refl _ _ | assumption | with_reducible refine Below.drew ?_ | with_reducible refine bel_al ?_ _ | with_reducible refine bel_tr ?_ (by assumption))) ⟨y1, q1, q2, p0, p1, p2, r0, r1, r2⟩) (fail)
              all_goals
                go_wp2_with fail
                go_ret
                rw [HVR.out]
                exact ⟨rfl, bel_tr hbw0 ((bel_al (bel_al hb _) _).drew)⟩
          · obtain rfl : k = c.length := by omega
            have HEND := Lib.hid (provesB_end (fun j hj => hlk.out j hj))
            obtain ⟨s, hs⟩ : ∃ s, s = sumC bs c c.length := ⟨_, rfl⟩
            rw [← hs] at HEND ⊢
            clear hs
            by_cases h18 : 0 ≤ s
            · have HVR : Hid (verifyR n bs c = 18) := Lib.hid (by unfold verifyR; rw [if_pos HZ.out, if_neg H15.out, HIB.out, HEND.out, decide_eq_false (by omega)]; rfl)
              go_wp2_with fail
              go_ret
              rw [HVR.out]
              exact ⟨rfl, bel_tr hbw0 hb⟩
            · have HVR : Hid (verifyR n bs c = 0) := Lib.hid (by unfold verifyR; rw [if_pos HZ.out, if_neg H15.out, HIB.out, HEND.out, decide_eq_true (by omega)]; rfl)
              go_wp2_with fail
              go_ret
              rw [HVR.out]
              exact ⟨rfl, bel_tr hbw0 hb⟩
  · have g0 : (e0 != 0) = true := by simpa using h0
    have HR : Hid (verifyR n bs c = e0) := Lib.hid (by unfold verifyR; rw [he0, if_neg h0])
    clear he0 h0
    rw [HR.out]
    go_enter Try.func34, Try.ntmps34
    go_wp2_with (go_at_call 32; refine (zcheck_any n bs _ _ (HL.out.stays bdAt_stays (bel_one _ _))).mono ?_; rw [HE0.out]; rintro e w1 ⟨rfl, hb1⟩)
    go_ret
    exact ⟨rfl, bel_tr (bel_one _ _) hb1⟩
end Go.Proofs.Ytgecbjjcjemcgaa
