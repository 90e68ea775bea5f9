/- Whether indices of bounds are a contradiction, as the reference decides. -/
import Derived.Test.YtgecbjjcjemcgaaDslv
import Derived.StillTailTactics
namespace Go.Proofs.Ytgecbjjcjemcgaa
open Go.RowKit

def bdI (bs : List Bd) (i : Int) : Bd := bs.getD i.toNat ⟨0, 0, 0⟩
def nxtI (c : List Int) (k : Nat) : Int := gd c ((k + 1) % c.length)
def linkB (bs : List Bd) (c : List Int) (k : Nat) : Bool := (bdI bs (gd c k)).y == (bdI bs (nxtI c k)).x
def sumC (bs : List Bd) (c : List Int) : Nat → Int
  | 0 => 0
  | k + 1 => sumC bs c k + (bdI bs (gd c k)).most
def provesB (bs : List Bd) (c : List Int) : Bool := (List.range c.length).all (linkB bs c) && decide (sumC bs c c.length < 0)
theorem provesB_no {bs : List Bd} {c : List Int} {k : Nat} (hk : k < c.length) (h : linkB bs c k = false) : provesB bs c = false := by
  unfold provesB
  rw [Bool.and_eq_false_iff]
  left
  rw [List.all_eq_false]
  exact ⟨k, List.mem_range.2 hk, by rw [h]; simp⟩
theorem provesB_end {bs : List Bd} {c : List Int} (h : ∀ k, k < c.length → linkB bs c k = true) : provesB bs c = decide (sumC bs c c.length < 0) := by
  unfold provesB
  have : (List.range c.length).all (linkB bs c) = true := List.all_eq_true.2 (fun k hk => h k (List.mem_range.1 hk))
  rw [this, Bool.true_and]
theorem bdI_get {bs : List Bd} {i : Nat} (h : i < bs.length) : bs[i]? = some (bdI bs (i : Int)) := by
  unfold bdI; rw [Int.toNat_natCast, List.getD_eq_getElem?_getD, List.getElem?_eq_getElem h]; rfl
theorem sumC_bound {n : Nat} {bs : List Bd} (hg : good n bs) {c : List Int} (hi : ∀ k, k < c.length → 0 ≤ gd c k ∧ gd c k < bs.length) : ∀ k, k ≤ c.length → -((k : Int) * 1125899906842624) ≤ sumC bs c k ∧ sumC bs c k ≤ (k : Int) * 1125899906842624 := by
  intro k
  induction k with
  | zero => intro _; simp [sumC]
  | succ k ih =>
    intro hk
    have h1 := ih (by omega)
    have h2 := hi k (by omega)
    obtain ⟨i, hi'⟩ := Int.eq_ofNat_of_zero_le h2.1
    have h3 : bs[i]? = some (bdI bs (gd c k)) := by rw [hi']; exact bdI_get (by omega)
    have h4 := hg _ (List.mem_of_getElem? h3)
    simp only [sumC]
    omega

theorem cells9 {w W : World} {p1 p2 p3 p4 p5 p6 p7 p8 p9 : Nat × Nat} {v1 v2 v3 v4 v5 v6 v7 v8 v9 : Value} (hb : Below w.heap.size w W) (h : w.cell? ⟨p1.1, p1.2, none⟩ = some v1 ∧ w.cell? ⟨p2.1, p2.2, none⟩ = some v2 ∧ w.cell? ⟨p3.1, p3.2, none⟩ = some v3 ∧ w.cell? ⟨p4.1, p4.2, none⟩ = some v4 ∧ w.cell? ⟨p5.1, p5.2, none⟩ = some v5 ∧ w.cell? ⟨p6.1, p6.2, none⟩ = some v6 ∧ w.cell? ⟨p7.1, p7.2, none⟩ = some v7 ∧ w.cell? ⟨p8.1, p8.2, none⟩ = some v8 ∧ w.cell? ⟨p9.1, p9.2, none⟩ = some v9) : W.cell? ⟨p1.1, p1.2, none⟩ = some v1 ∧ W.cell? ⟨p2.1, p2.2, none⟩ = some v2 ∧ W.cell? ⟨p3.1, p3.2, none⟩ = some v3 ∧ W.cell? ⟨p4.1, p4.2, none⟩ = some v4 ∧ W.cell? ⟨p5.1, p5.2, none⟩ = some v5 ∧ W.cell? ⟨p6.1, p6.2, none⟩ = some v6 ∧ W.cell? ⟨p7.1, p7.2, none⟩ = some v7 ∧ W.cell? ⟨p8.1, p8.2, none⟩ = some v8 ∧ W.cell? ⟨p9.1, p9.2, none⟩ = some v9 := by
  obtain ⟨h1, h2, h3, h4, h5, h6, h7, h8, h9⟩ := h
  exact ⟨cell_stays hb h1, cell_stays hb h2, cell_stays hb h3, cell_stays hb h4, cell_stays hb h5, cell_stays hb h6, cell_stays hb h7, cell_stays hb h8, cell_stays hb h9⟩

set_option maxRecDepth 100000 in
set_option maxHeartbeats 2000000 in
theorem rproves_any (n : Nat) (bs : List Bd) (v : Value) (c : List Int) (vc : Value) (w : World) (hl : IsBds w v bs) (hc : IsInts w vc c) (hg : good n bs) (hi : ∀ k, k < c.length → 0 ≤ gd c k ∧ gd c k < bs.length) (h1 : 1 ≤ c.length) (h2 : c.length ≤ 256) :
    Calls Try.prog 44 #[zoneV n v, vc] w fun e w' => e = .returned (.bool (provesB bs c)) ∧ Below w.heap.size w w' := by
  unfold zoneV
  obtain ⟨A, ca, rfl, -, -, hat⟩ := hl
  obtain ⟨B, cb, rfl, -, -, hbt⟩ := hc
  have HAT := Lib.hid hat
  have HBT := Lib.hid hbt
  have HI := Lib.hid hi
  have HS := Lib.hid (sumC_bound hg hi)
  have HG := Lib.hid hg
  clear hat hbt hi hg
  go_enter Try.func44, Try.ntmps44
  go_wp2_with fail
  refine wp_gen ?_
  intro W0 hW0
  have hb0 : Below w.heap.size w W0 := by rw [hW0]; exact bel_one _ _
  have z1 : W0.cell? ⟨w.heap.size, 1, none⟩ = some (.slice A bs.length ca) := by rw [hW0]; exact (new_cells (Below.refl _ _)).1 1
  clear hW0
  go_loopw [5, 6] (fun s i wr => ∃ k : Nat, k ≤ c.length ∧ i = .int .i64 k ∧ s = .int .i64 (sumC bs c k) ∧ Hid (∀ j, j < k → linkB bs c j = true) ∧ Below W0.heap.size W0 wr) (fun _ i _ => c.length - (intOf i).toNat)
  case atStart => exact ⟨0, Nat.zero_le _, rfl, rfl, Lib.hid (fun j hj => by omega), Below.refl _ _⟩
  case round =>
    obtain ⟨k, hk, rfl, rfl, hlk, hb⟩ := hrel
    by_cases hlt : k < c.length
    · have hlt' : (k : Int) < (c.length : Int) := by omega
      obtain ⟨R, hR⟩ : ∃ R, R = (k + 1) % c.length := ⟨_, rfl⟩
      have hRl : R < c.length := by rw [hR]; exact Nat.mod_lt _ (by omega)
      have hRi : (R : Int) < (c.length : Int) := by omega
      have hmod : Int.tmod ((k : Int) + 1) (c.length : Int) = (R : Int) := by rw [hR, Int.tmod_eq_emod_of_nonneg (by omega), Int.natCast_emod]; rfl
      have HR := Lib.hid hR
      clear hR
      obtain ⟨i1, hi1⟩ := Int.eq_ofNat_of_zero_le (HI.out k hlt).1
      obtain ⟨i2, hi2⟩ := Int.eq_ofNat_of_zero_le (HI.out R hRl).1
      have hl1 : i1 < bs.length := by have := (HI.out k hlt).2; omega
      have hl2 : i2 < bs.length := by have := (HI.out R hRl).2; omega
      obtain ⟨gb, ob, rfl, q1⟩ := HBT.out k _ (gd_at hlt)
      obtain ⟨gb', ob', hA1, q2⟩ := HBT.out R _ (gd_at hRl)
      injection hA1 with hA1
      injection hA1 with ea eb
      subst ea eb
      rw [hi1] at q1
      rw [hi2] at q2
      simp only [Nat.mul_one] at q1 q2
      obtain ⟨ga, oa, rfl, p0, p1, p2⟩ := HAT.out i1 _ (bdI_get hl1)
      obtain ⟨ga', oa', hA1, r0, r1, r2⟩ := HAT.out i2 _ (bdI_get hl2)
      injection hA1 with hA1
      injection hA1 with ea eb
      subst ea eb
      have hbw := bel_tr hb0 hb
      replace q1 : wr.cell? ⟨gb, ob + k, none⟩ = some (.int .i64 (i1 : Int)) := cell_stays hbw q1
      replace q2 : wr.cell? ⟨gb, ob + R, none⟩ = some (.int .i64 (i2 : Int)) := cell_stays hbw q2
      replace p0 := cell_stays hbw p0
      replace p1 := cell_stays hbw p1
      replace p2 := cell_stays hbw p2
      replace r0 := cell_stays hbw r0
      replace r1 := cell_stays hbw r1
      replace r2 := cell_stays hbw r2
      have y1 := cell_stays hb z1
      obtain ⟨b1, hb1⟩ : ∃ b, b = bdI bs (i1 : Int) := ⟨_, rfl⟩
      obtain ⟨b2, hb2⟩ : ∃ b, b = bdI bs (i2 : Int) := ⟨_, rfl⟩
      rw [← hb1] at p0 p1 p2
      rw [← hb2] at r0 r1 r2
      have hll1 : (i1 : Int) < (bs.length : Int) := by omega
      have hll2 : (i2 : Int) < (bs.length : Int) := by omega
      have hc0 : ¬ (c.length : Int) = 0 := by omega
      have hc0' : ¬ c.length = 0 := by omega
      have hw1 : IntKind.i64.wrap ((k : Int) + 1) = (k : Int) + 1 := IntWalk.i64_in _ (by omega)
      have hw2 : IntKind.i64.wrap (R : Int) = (R : Int) := IntWalk.i64_in _ (by omega)
      have HB1 : Hid (b1 = bdI bs (gd c k)) := Lib.hid (by rw [hi1]; exact hb1)
      have HB2 : Hid (b2 = bdI bs (nxtI c k)) := Lib.hid (by unfold nxtI; rw [← HR.out, hi2]; exact hb2)
      have hsk := HS.out k hk
      have hsk1 := HS.out (k + 1) (by omega)
      have HSS : Hid (sumC bs c (k + 1) = sumC bs c k + b1.most) := Lib.hid (by rw [HB1.out]; rfl)
      have hw3 : IntKind.i64.wrap (sumC bs c k + b1.most) = sumC bs c k + b1.most := IntWalk.i64_in _ (by rw [← HSS.out]; omega)
      clear hb1 hb2 hi1 hi2 hsk hsk1
      by_cases hy : b1.y = b2.x
      · have g0 : (b1.y != b2.x) = false := by simpa using hy
        have HLK : Hid (linkB bs c k = true) := Lib.hid (by unfold linkB; rw [← HB1.out, ← HB2.out, hy]; simp)
        clear hy
        go_wp2_with fail
        go_region_held3 (fun W => W.cell? ⟨w.heap.size, 1, none⟩ = some (.slice (some ⟨ga, oa, none⟩) bs.length ca) ∧ W.cell? ⟨gb, ob + k, none⟩ = some (.int .i64 (i1 : Int)) ∧ W.cell? ⟨gb, ob + R, none⟩ = some (.int .i64 (i2 : Int)) ∧ W.cell? ⟨ga, oa + i1 * 3, none⟩ = some (.int .i64 b1.x) ∧ W.cell? ⟨ga, oa + i1 * 3 + 1, none⟩ = some (.int .i64 b1.y) ∧ W.cell? ⟨ga, oa + i1 * 3 + 2, none⟩ = some (.int .i64 b1.most) ∧ W.cell? ⟨ga, oa + i2 * 3, none⟩ = some (.int .i64 b2.x) ∧ W.cell? ⟨ga, oa + i2 * 3 + 1, none⟩ = some (.int .i64 b2.y) ∧ W.cell? ⟨ga, oa + i2 * 3 + 2, none⟩ = some (.int .i64 b2.most)) (with_reducible exact cells9 (p1 := (w.heap.size, 1)) (p2 := (gb, ob + k)) (p3 := (gb, ob + R)) (p4 := (ga, oa + i1 * 3)) (p5 := (ga, oa + i1 * 3 + 1)) (p6 := (ga, oa + i1 * 3 + 2)) (p7 := (ga, oa + i2 * 3)) (p8 := (ga, oa + i2 * 3 + 1)) (p9 := (ga, oa + i2 * 3 + 2)) (by repeat (first | with_reducible exact Below.refl _ _ | assumption | with_reducible refine Below.drew ?_ | with_reducible refine bel_al ?_ _ | with_reducible refine bel_tr ?_ (by assumption))) ⟨y1, q1, q2, p0, p1, p2, r0, r1, r2⟩) (fail)
        all_goals
          go_wp2_with fail
          go_roundw
          case rel => exact ⟨k + 1, by omega, by go_num, by rw [HSS.out], Lib.hid (fun j hj => by rcases Nat.lt_or_eq_of_le (Nat.le_of_lt_succ hj) with h | h; exact hlk.out j h; rw [h]; exact HLK.out), (bel_al (bel_al hb _) _).drew⟩
          case measure => simp [intOf]; omega
      · have g0 : (b1.y != b2.x) = true := by simpa using hy
        have HNO := Lib.hid (provesB_no hlt (by unfold linkB; rw [← HB1.out, ← HB2.out]; simpa using hy))
        clear hy
        go_wp2_with fail
        go_region_held3 (fun W => W.cell? ⟨w.heap.size, 1, none⟩ = some (.slice (some ⟨ga, oa, none⟩) bs.length ca) ∧ W.cell? ⟨gb, ob + k, none⟩ = some (.int .i64 (i1 : Int)) ∧ W.cell? ⟨gb, ob + R, none⟩ = some (.int .i64 (i2 : Int)) ∧ W.cell? ⟨ga, oa + i1 * 3, none⟩ = some (.int .i64 b1.x) ∧ W.cell? ⟨ga, oa + i1 * 3 + 1, none⟩ = some (.int .i64 b1.y) ∧ W.cell? ⟨ga, oa + i1 * 3 + 2, none⟩ = some (.int .i64 b1.most) ∧ W.cell? ⟨ga, oa + i2 * 3, none⟩ = some (.int .i64 b2.x) ∧ W.cell? ⟨ga, oa + i2 * 3 + 1, none⟩ = some (.int .i64 b2.y) ∧ W.cell? ⟨ga, oa + i2 * 3 + 2, none⟩ = some (.int .i64 b2.most)) (with_reducible exact cells9 (p1 := (w.heap.size, 1)) (p2 := (gb, ob + k)) (p3 := (gb, ob + R)) (p4 := (ga, oa + i1 * 3)) (p5 := (ga, oa + i1 * 3 + 1)) (p6 := (ga, oa + i1 * 3 + 2)) (p7 := (ga, oa + i2 * 3)) (p8 := (ga, oa + i2 * 3 + 1)) (p9 := (ga, oa + i2 * 3 + 2)) (by repeat (first | with_reducible exact Below.refl _ _ | assumption | with_reducible refine Below.drew ?_ | with_reducible refine bel_al ?_ _ | with_reducible refine bel_tr ?_ (by assumption))) ⟨y1, q1, q2, p0, p1, p2, r0, r1, r2⟩) (fail)
        all_goals
          go_wp2_with fail
          go_ret
          rw [HNO.out]
          exact ⟨rfl, bel_tr hb0 ((bel_al (bel_al hb _) _).drew)⟩
    · obtain rfl : k = c.length := by omega
      have HEND := Lib.hid (provesB_end (fun j hj => hlk.out j hj))
      go_wp2_with fail
      go_ret
      rw [HEND.out]
      exact ⟨rfl, bel_tr hb0 hb⟩

def idxBad (bs : List Bd) (c : List Int) : Bool := c.any fun i => decide (i < 0) || decide ((bs.length : Int) ≤ i)
def verifyR (n : Int) (bs : List Bd) (c : List Int) : Int :=
  if zoneErr n bs = 0 then
    if (c.length : Int) = 0 ∨ 256 < (c.length : Int) then 15
    else if idxBad bs c = true then 2
    else if provesB bs c = true then 0 else 18
  else zoneErr n bs

theorem idxBad_ok {bs : List Bd} {c : List Int} (h : idxBad bs c = false) : ∀ k, k < c.length → 0 ≤ gd c k ∧ gd c k < bs.length := by
  intro k hk
  unfold idxBad at h
  rw [List.any_eq_false] at h
  have := h (gd c k) (List.mem_of_getElem? (gd_at hk))
  simp only [Bool.or_eq_true, decide_eq_true_eq, not_or] at this
  omega
theorem idxBad_at {bs : List Bd} {c : List Int} {k : Nat} (hk : k < c.length) (h : gd c k < 0 ∨ (bs.length : Int) ≤ gd c k) : idxBad bs c = true := by
  unfold idxBad
  rw [List.any_eq_true]
  refine ⟨gd c k, List.mem_of_getElem? (gd_at hk), ?_⟩
  simp only [Bool.or_eq_true, decide_eq_true_eq]
  exact h
theorem idxBad_none {bs : List Bd} {c : List Int} (h : ∀ j, j < c.length → ¬ (gd c j < 0 ∨ (bs.length : Int) ≤ gd c j)) : idxBad bs c = false := by
  unfold idxBad
  rw [List.any_eq_false]
  intro x hx
  obtain ⟨j, hj⟩ := List.mem_iff_getElem?.1 hx
  have h1 := h j (List.getElem?_eq_some_iff.1 hj).1
  rw [gd_get hj] at h1
  simp only [Bool.or_eq_true, decide_eq_true_eq]
  exact h1

set_option maxRecDepth 100000 in
set_option maxHeartbeats 2000000 in
theorem rverify_any (n : Int) (bs : List Bd) (v : Value) (c : List Int) (vc : Value) (w : World) (hl : IsBds w v bs) (hc : IsInts w vc c) :
    Calls Try.prog 17 #[zoneV n v, vc] w fun e w' => e = .returned (.int .i64 (verifyR n bs c)) ∧ Below w.heap.size w w' := by
  unfold zoneV
  have HL := Lib.hid hl
  have HC := Lib.hid hc
  obtain ⟨A, ca, rfl, -, -, -⟩ := hl
  obtain ⟨B, cb, rfl, hc1, hc2, hbt⟩ := hc
  have HBT := Lib.hid hbt
  have hn := len_i64 hc1 hc2
  clear hbt hc1 hc2
  obtain ⟨e0, he0⟩ : ∃ e, zoneErr n bs = e := ⟨_, rfl⟩
  have HE0 := Lib.hid he0
  by_cases h0 : e0 = 0
  · have g0 : (e0 != 0) = false := by simpa using h0
    obtain ⟨hn1, -, hlen, hgood⟩ := good_of (he0.trans h0)
    have HZ : Hid (zoneErr n bs = 0) := Lib.hid (he0.trans h0)
    obtain ⟨N, rfl⟩ := Int.eq_ofNat_of_zero_le (by omega : 0 ≤ n)
    have HG : Hid (good N bs) := Lib.hid (by rw [Int.toNat_natCast] at hgood; exact hgood)
    clear he0 h0 hgood
    by_cases h15 : (c.length : Int) = 0 ∨ 256 < (c.length : Int)
    · have HR : Hid (verifyR N bs c = 15) := Lib.hid (by unfold verifyR; rw [if_pos HZ.out, if_pos h15])
      by_cases hz : (c.length : Int) = 0
      · have gz : ((c.length : Int) == 0) = true := by simpa using hz
        clear h15 hz
        go_enter Try.func17, Try.ntmps17
        go_wp2_with (go_at_call 33; refine (rzcheck_any _ bs _ _ (HL.out.stays bdAt_stays (bel_one _ _))).mono ?_; rw [HE0.out]; rintro e w1 ⟨rfl, hb1⟩)
        go_ret
        rw [HR.out]
        exact ⟨rfl, bel_tr (bel_one _ _) hb1⟩
      · have gz : ((c.length : Int) == 0) = false := by simpa using hz
        have h256 : 256 < (c.length : Int) := by omega
        clear h15 hz
        go_enter Try.func17, Try.ntmps17
        go_wp2_with (go_at_call 33; refine (rzcheck_any _ bs _ _ (HL.out.stays bdAt_stays (bel_one _ _))).mono ?_; rw [HE0.out]; rintro e w1 ⟨rfl, hb1⟩)
        go_ret
        rw [HR.out]
        exact ⟨rfl, bel_tr (bel_one _ _) hb1⟩
    · have H15 := Lib.hid h15
      have gz : ((c.length : Int) == 0) = false := by rw [beq_eq_false_iff_ne]; omega
      have h256 : ¬ 256 < (c.length : Int) := by omega
      have hl1 : 1 ≤ c.length := by omega
      clear h15
      go_enter Try.func17, Try.ntmps17
      go_wp2_with (go_at_call 33; refine (rzcheck_any _ bs _ _ (HL.out.stays bdAt_stays (bel_one _ _))).mono ?_; rw [HE0.out]; rintro e w1 ⟨rfl, hb1⟩; obtain ⟨hz, -⟩ := new_cells hb1; have hbw := bel_tr (bel_one _ _) hb1; clear hb1)
      have z0 : w1.cell? ⟨w.heap.size, 0, none⟩ = some (.int .i64 (N : Int)) := hz 0
      have z1 : w1.cell? ⟨w.heap.size, 1, none⟩ = some (.slice A bs.length ca) := hz 1
      clear hz
      go_loopw [6] (fun i wr => ∃ k : Nat, k ≤ c.length ∧ i = .int .i64 k ∧ Hid (∀ j, j < k → ¬ (gd c j < 0 ∨ (bs.length : Int) ≤ gd c j)) ∧ Below w1.heap.size w1 wr) (fun i _ => c.length - (intOf i).toNat)
      case atStart => exact ⟨0, Nat.zero_le _, rfl, Lib.hid (fun j hj => by omega), Below.refl _ _⟩
      case round =>
        obtain ⟨k, hk, rfl, hno, hb⟩ := hrel
        have y0 := cell_stays hb z0
        have y1 := cell_stays hb z1
        by_cases hlt : k < c.length
        · have hlt' : (k : Int) < (c.length : Int) := by omega
          obtain ⟨gb, ob, rfl, q1⟩ := HBT.out k _ (gd_at hlt)
          simp only [Nat.mul_one] at q1
          obtain ⟨x, hx⟩ : ∃ x, x = gd c k := ⟨_, rfl⟩
          rw [← hx] at q1
          have HX := Lib.hid hx
          clear hx
          replace q1 : wr.cell? ⟨gb, ob + k, none⟩ = some (.int .i64 x) := cell_stays (bel_tr hbw hb) q1
          by_cases hx0 : x < 0
          · have HR : Hid (verifyR N bs c = 2) := Lib.hid (by unfold verifyR; rw [if_pos HZ.out, if_neg H15.out, if_pos (idxBad_at hlt (.inl (by rw [← HX.out]; exact hx0)))])
            go_wp2_with fail
            refine wp_region_F (fun W => W.cell? ⟨gb, ob + k, none⟩ = some (.int .i64 x) ∧ W.cell? ⟨w.heap.size, 1, none⟩ = some (.slice A bs.length ca)) (by repeat (first | exact grows_cell _ _ _ | exact grows_true | refine grows_and ?_ ?_)) (by kernel_rfl) (by kernel_rfl) ?hF ?_; (case hF => (first | exact ⟨‹_›, ‹_›⟩ | (go_simp; done) | (simp [*]; done))); intro hne hxx; have hG : Hid (Grows (fun W => W.cell? ⟨gb, ob + k, none⟩ = some (.int .i64 x) ∧ W.cell? ⟨w.heap.size, 1, none⟩ = some (.slice A bs.length ca))) := (by repeat (first | exact grows_cell _ _ _ | exact grows_true | refine grows_and ?_ ?_)); (repeat (go_big_quiet_step (fail))); clear hG hxx hne; refine wpQuiet_nil ?_; rintro _ ⟨⟨w', hb', hF'⟩, rfl⟩
            clear hF'
            go_wp2_with fail
            go_ret
            rw [HR.out]
            exact ⟨rfl, bel_tr (bel_tr hbw hb) hb'⟩
          · have hd0 : decide (x < 0) = false := decide_eq_false hx0
            by_cases hx1 : (bs.length : Int) ≤ x
            · have hd1 : decide ((bs.length : Int) ≤ x) = true := decide_eq_true hx1
              have HR : Hid (verifyR N bs c = 2) := Lib.hid (by unfold verifyR; rw [if_pos HZ.out, if_neg H15.out, if_pos (idxBad_at hlt (.inr (by rw [← HX.out]; exact hx1)))])
              go_wp2_with fail
              refine wp_region_F (fun W => W.cell? ⟨gb, ob + k, none⟩ = some (.int .i64 x) ∧ W.cell? ⟨w.heap.size, 1, none⟩ = some (.slice A bs.length ca)) (by repeat (first | exact grows_cell _ _ _ | exact grows_true | refine grows_and ?_ ?_)) (by kernel_rfl) (by kernel_rfl) ?hF ?_; (case hF => (first | exact ⟨‹_›, ‹_›⟩ | (go_simp; done) | (simp [*]; done))); intro hne hxx; have hG : Hid (Grows (fun W => W.cell? ⟨gb, ob + k, none⟩ = some (.int .i64 x) ∧ W.cell? ⟨w.heap.size, 1, none⟩ = some (.slice A bs.length ca))) := (by repeat (first | exact grows_cell _ _ _ | exact grows_true | refine grows_and ?_ ?_)); (repeat (go_big_quiet_step (fail))); clear hG hxx hne; refine wpQuiet_nil ?_; rintro _ ⟨⟨w', hb', hF'⟩, rfl⟩
              clear hF'
              go_wp2_with fail
              go_ret
              rw [HR.out]
              exact ⟨rfl, bel_tr (bel_tr hbw hb) hb'⟩
            · have hd1 : decide ((bs.length : Int) ≤ x) = false := decide_eq_false hx1
              go_wp2_with fail
              refine wp_region_F (fun W => W.cell? ⟨gb, ob + k, none⟩ = some (.int .i64 x) ∧ W.cell? ⟨w.heap.size, 1, none⟩ = some (.slice A bs.length ca)) (by repeat (first | exact grows_cell _ _ _ | exact grows_true | refine grows_and ?_ ?_)) (by kernel_rfl) (by kernel_rfl) ?hF ?_; (case hF => (first | exact ⟨‹_›, ‹_›⟩ | (go_simp; done) | (simp [*]; done))); intro hne hxx; have hG : Hid (Grows (fun W => W.cell? ⟨gb, ob + k, none⟩ = some (.int .i64 x) ∧ W.cell? ⟨w.heap.size, 1, none⟩ = some (.slice A bs.length ca))) := (by repeat (first | exact grows_cell _ _ _ | exact grows_true | refine grows_and ?_ ?_)); (repeat (go_big_quiet_step (fail))); clear hG hxx hne; refine wpQuiet_nil ?_; rintro _ ⟨⟨w', hb', hF'⟩, rfl⟩
              clear hF'
              go_wp2_with fail
              go_roundw
              case rel => exact ⟨k + 1, by omega, by go_num, Lib.hid (fun j hj => by rcases Nat.lt_or_eq_of_le (Nat.le_of_lt_succ hj) with h | h; exact hno.out j h; rw [h, ← HX.out]; omega), bel_tr hb hb'⟩
              case measure => simp [intOf]; omega
        · obtain rfl : k = c.length := by omega
          have HIB := Lib.hid (idxBad_none (bs := bs) hno.out)
          obtain ⟨pb, hpb⟩ : ∃ p, provesB bs c = p := ⟨_, rfl⟩
          have HPB := Lib.hid hpb
          clear hpb
          cases pb with
          | true =>
            have HR : Hid (verifyR N bs c = 0) := Lib.hid (by unfold verifyR; rw [if_pos HZ.out, if_neg H15.out, HIB.out, HPB.out]; rfl)
            go_wp2_with (go_at_call 44; refine (rproves_any N bs _ c _ _ (HL.out.stays bdAt_stays (bel_tr hbw hb)) (HC.out.stays intAt_stays (bel_tr hbw hb)) HG.out (idxBad_ok HIB.out) hl1 (by omega)).mono ?_; rw [HPB.out]; rintro e w5 ⟨rfl, hb5⟩)
            go_ret
            rw [HR.out]
            exact ⟨rfl, bel_tr (bel_tr hbw hb) hb5⟩
          | false =>
            have HR : Hid (verifyR N bs c = 18) := Lib.hid (by unfold verifyR; rw [if_pos HZ.out, if_neg H15.out, HIB.out, HPB.out]; rfl)
            go_wp2_with (go_at_call 44; refine (rproves_any N bs _ c _ _ (HL.out.stays bdAt_stays (bel_tr hbw hb)) (HC.out.stays intAt_stays (bel_tr hbw hb)) HG.out (idxBad_ok HIB.out) hl1 (by omega)).mono ?_; rw [HPB.out]; rintro e w5 ⟨rfl, hb5⟩)
            go_ret
            rw [HR.out]
            exact ⟨rfl, bel_tr (bel_tr hbw hb) hb5⟩
  · have g0 : (e0 != 0) = true := by simpa using h0
    have HR : Hid (verifyR n bs c = e0) := Lib.hid (by unfold verifyR; rw [he0, if_neg h0])
    clear he0 h0
    go_enter Try.func17, Try.ntmps17
    go_wp2_with (go_at_call 33; refine (rzcheck_any n bs _ _ (HL.out.stays bdAt_stays (bel_one _ _))).mono ?_; rw [HE0.out]; rintro e w1 ⟨rfl, hb1⟩)
    go_ret
    rw [HR.out]
    exact ⟨rfl, bel_tr (bel_one _ _) hb1⟩
end Go.Proofs.Ytgecbjjcjemcgaa
