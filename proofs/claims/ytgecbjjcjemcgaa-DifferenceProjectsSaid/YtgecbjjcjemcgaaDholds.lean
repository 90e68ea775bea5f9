/- Whether values are a model, as the program and as the reference find it. -/
import Derived.Test.YtgecbjjcjemcgaaDrange
import Derived.Test.YtgecbjjcjemcgaaDindex
import Derived.Deep.RegionHeld3
namespace Go.Proofs.Ytgecbjjcjemcgaa
open Go.RowKit

def farI (x : Int) : Bool := decide (x < -1152921504606846976) || decide (1152921504606846976 < x)
def satOne (vs : List Int) (b : Bd) : Bool := decide (gd vs b.x.toNat - gd vs b.y.toNat ≤ b.most)
def satB (bs : List Bd) (vs : List Int) : Bool := bs.all (satOne vs)
def holdsR (n : Int) (bs : List Bd) (vs : List Int) : Bool × Int :=
  if zoneErr n bs = 0 then
    if (vs.length : Int) = n then (if vs.any farI = true then (false, 2) else if gd vs 0 = 0 then (satB bs vs, 0) else (false, 3)) else (false, 15)
  else (false, zoneErr n bs)
theorem satB_not (bs : List Bd) (vs : List Int) : (!(bs.any fun b => !satOne vs b)) = satB bs vs := by
  unfold satB
  rw [List.not_any_eq_all_not]
  simp
theorem far_not {vs : List Int} (h : vs.any farI = false) (i : Nat) : -1152921504606846976 ≤ gd vs i ∧ gd vs i ≤ 1152921504606846976 := by
  by_cases hi : i < vs.length
  · have h1 := List.any_eq_false.1 h (gd vs i) (List.mem_of_getElem? (gd_at hi))
    unfold farI at h1
    simp only [Bool.or_eq_true, decide_eq_true_eq, not_or] at h1
    omega
  · have : gd vs i = 0 := by unfold gd; rw [List.getD_eq_getElem?_getD, List.getElem?_eq_none (by omega)]; rfl
    omega

theorem far_any (x : Int) (W : World) : Calls Try.prog 55 #[.int .i64 x] W fun e W' => e = .returned (.bool (farI x)) ∧ Below W.heap.size W W' := by
  go_enter Try.func55, Try.ntmps55
  go_wp2
  all_goals
    go_ret
    refine ⟨?_, (by repeat (first | exact Below.refl _ _ | assumption | refine Below.drew ?_ | refine bel_al ?_ _ | refine bel_set ?_ (by omega) _ | refine bel_tr ?_ (by assumption)))⟩
    try congr 2
    try unfold farI
    try (first | (simp_all; done) | (simp_all; omega))

set_option maxRecDepth 100000 in
theorem satisfied_any (b : Bd) (vs : List Int) (v : Value) (W : World) (hv : IsInts W v vs) (hx : 0 ≤ b.x ∧ b.x < vs.length) (hy : 0 ≤ b.y ∧ b.y < vs.length) (hf : vs.any farI = false) :
    Calls Try.prog 58 #[bdV b, v] W fun e W' => e = .returned (.bool (satOne vs b)) ∧ Below W.heap.size W W' := by
  unfold bdV satOne
  obtain ⟨x, y, m⟩ := b
  simp only at hx hy ⊢
  obtain ⟨X, rfl⟩ := Int.eq_ofNat_of_zero_le hx.1
  obtain ⟨Y, rfl⟩ := Int.eq_ofNat_of_zero_le hy.1
  simp only [Int.toNat_natCast]
  obtain ⟨A, c, rfl, -, -, hat⟩ := hv
  obtain ⟨g, o, rfl, c0⟩ := hat X _ (gd_at (by omega))
  obtain ⟨g', o', hA, c1⟩ := hat Y _ (gd_at (by omega))
  injection hA with hA
  injection hA with h1 h2
  subst h1 h2
  have f1 := far_not hf X
  have f2 := far_not hf Y
  obtain ⟨vx, hvx⟩ : ∃ a, gd vs X = a := ⟨_, rfl⟩
  obtain ⟨vy, hvy⟩ : ∃ a, gd vs Y = a := ⟨_, rfl⟩
  simp only [hvx] at c0 f1 ⊢
  simp only [hvy] at c1 f2 ⊢
  simp only [Nat.mul_one] at c0 c1
  replace c0 : W.cell? ⟨g, o + X, none⟩ = some (.int .i64 vx) := c0
  replace c1 : W.cell? ⟨g, o + Y, none⟩ = some (.int .i64 vy) := c1
  have hw : IntKind.i64.wrap (vx - vy) = vx - vy := IntWalk.i64_in _ (by omega)
  have l0 := World.block_lt_of_cell? W _ c0
  simp only at l0
  have hX : (X : Int) < (vs.length : Int) := by omega
  have hY : (Y : Int) < (vs.length : Int) := by omega
  clear hat hx hy hvx hvy hf
  go_enter Try.func58, Try.ntmps58
  go_wp2_with fail
  refine wp_gen ?_
  intro W1 hW1
  have hb1 : Below W.heap.size W W1 := by rw [hW1]; exact bel_one _ _
  have y0 : W1.cell? ⟨W.heap.size, 0, none⟩ = some (.int .i64 (X : Int)) := by rw [hW1]; exact (new_cells (Below.refl _ _)).1 0
  have y1 : W1.cell? ⟨W.heap.size, 1, none⟩ = some (.int .i64 (Y : Int)) := by rw [hW1]; exact (new_cells (Below.refl _ _)).1 1
  have y2 : W1.cell? ⟨W.heap.size, 2, none⟩ = some (.int .i64 m) := by rw [hW1]; exact (new_cells (Below.refl _ _)).1 2
  replace c0 := cell_stays hb1 c0
  replace c1 := cell_stays hb1 c1
  clear hW1
  refine wp_region_F (fun w => w.cell? ⟨W.heap.size, 0, none⟩ = some (.int .i64 (X : Int)) ∧ w.cell? ⟨W.heap.size, 1, none⟩ = some (.int .i64 (Y : Int)) ∧ w.cell? ⟨W.heap.size, 2, none⟩ = some (.int .i64 m) ∧ w.cell? ⟨g, o + X, none⟩ = some (.int .i64 vx) ∧ w.cell? ⟨g, o + Y, none⟩ = some (.int .i64 vy)) (by repeat (first | exact grows_cell _ _ _ | exact grows_true | refine grows_and ?_ ?_)) (by kernel_rfl) (by kernel_rfl) ?hF ?_; (case hF => (first | exact ⟨‹_›, ‹_›⟩ | (go_simp; done) | (simp [*]; done))); intro hne hxx; have hG : Hid (Grows (fun w => w.cell? ⟨W.heap.size, 0, none⟩ = some (.int .i64 (X : Int)) ∧ w.cell? ⟨W.heap.size, 1, none⟩ = some (.int .i64 (Y : Int)) ∧ w.cell? ⟨W.heap.size, 2, none⟩ = some (.int .i64 m) ∧ w.cell? ⟨g, o + X, none⟩ = some (.int .i64 vx) ∧ w.cell? ⟨g, o + Y, none⟩ = some (.int .i64 vy))) := (by repeat (first | exact grows_cell _ _ _ | exact grows_true | refine grows_and ?_ ?_)); (repeat (go_big_quiet_step (fail))); clear hG hxx hne; refine wpQuiet_nil ?_; rintro _ ⟨⟨w', hb', hF'⟩, rfl⟩
  clear hF'
  go_wp2_with fail
  go_ret
  exact ⟨rfl, bel_tr hb1 hb'⟩

theorem unsat_any (b : Bd) (vs : List Int) (A : Option Addr) (n c : Nat) (q : Nat) (W : World) (hv : IsInts W (.slice A n c) vs) (hq : W.cell? ⟨q, 0, none⟩ = some (.slice A n c)) (hx : 0 ≤ b.x ∧ b.x < vs.length) (hy : 0 ≤ b.y ∧ b.y < vs.length) (hf : vs.any farI = false) :
    Calls Try.prog 57 #[bdV b, .pointer (some ⟨q, 0, none⟩)] W fun e W' => e = .returned (.bool (!satOne vs b)) ∧ Below W.heap.size W W' := by
  have HV := Lib.hid hv
  have HF := Lib.hid hf
  have hl := World.block_lt_of_cell? W _ hq
  simp only at hl
  obtain ⟨s, hs⟩ : ∃ s, satOne vs b = s := ⟨_, rfl⟩
  have HS := Lib.hid hs
  clear hs hv hf
  rw [HS.out]
  unfold bdV
  go_enter Try.func57, Try.ntmps57
  go_wp2_with (go_at_call 58; refine (satisfied_any b vs _ _ (HV.out.stays intAt_stays (bel_one _ _)) hx hy HF.out).mono ?_; rw [HS.out]; rintro e w1 ⟨rfl, hb1⟩)
  go_ret
  exact ⟨rfl, bel_tr (bel_one _ _) hb1⟩

theorem enter_far (args : Array Value) (W : World) : (callFunc 55 args).run Try.prog W = .ok (.enter 55 args) W := by rfl
theorem enter_unsat (args : Array Value) (W : World) : (callFunc 57 args).run Try.prog W = .ok (.enter 57 args) W := by rfl

set_option maxRecDepth 100000 in
set_option maxHeartbeats 2000000 in
theorem holds_any (n : Int) (bs : List Bd) (v : Value) (vs : List Int) (vv : Value) (w : World) (hl : IsBds w v bs) (hv : IsInts w vv vs) :
    Calls Try.prog 28 #[zoneV n v, vv] w fun e w' => e = .returned (.tuple #[.bool (holdsR n bs vs).1, .int .i64 (holdsR n bs vs).2]) ∧ Below w.heap.size w w' := by
  unfold zoneV
  have HL := Lib.hid hl
  have HV := Lib.hid hv
  obtain ⟨A, c, rfl, -, -, -⟩ := hl
  obtain ⟨B, d, rfl, -, -, hbt⟩ := hv
  have HBT := Lib.hid hbt
  clear hbt
  obtain ⟨e0, he0⟩ : ∃ e, zoneErr n bs = e := ⟨_, rfl⟩
  have HE0 := Lib.hid he0
  by_cases h0 : e0 = 0
  · have g0 : (e0 != 0) = false := by simpa using h0
    obtain ⟨hn1, hn64, hlen, hgood⟩ := good_of (he0.trans h0)
    have HZ : Hid (zoneErr n bs = 0) := Lib.hid (he0.trans h0)
    have HG := Lib.hid hgood
    clear he0 h0 hgood
    by_cases h15 : (vs.length : Int) = n
    · have g15 : ((vs.length : Int) != n) = false := by simpa using h15
      have hll : 1 ≤ vs.length := by omega
      obtain ⟨fa, hfa⟩ : ∃ f, vs.any farI = f := ⟨_, rfl⟩
      have HFA := Lib.hid hfa
      clear hfa
      cases fa with
      | true =>
        have HR : Hid (holdsR n bs vs = (false, 2)) := Lib.hid (by unfold holdsR; rw [if_pos HZ.out, if_pos h15, if_pos HFA.out])
        clear h15
        rw [HR.out]
        go_enter Try.func28, Try.ntmps28
        go_wp2_with (first
          | (go_at_call 32; refine (zcheck_any _ bs _ _ (HL.out.stays bdAt_stays (bel_al (bel_one _ _) _))).mono ?_; rw [HE0.out]; rintro e w1 ⟨rfl, hb1⟩; obtain ⟨hz, hr, hrf, hbw, hsz⟩ := two_cells hb1; have z0 : w1.cell? ⟨w.heap.size, 0, none⟩ = some (.int .i64 n) := hz 0; have z1 : w1.cell? ⟨w.heap.size, 1, none⟩ = some (.slice A bs.length c) := hz 1; have q0 : w1.cell? ⟨w.heap.size + 1, 0, none⟩ = some (.slice B vs.length d) := hr 0; clear hb1 hz hr hrf)
          | (go_at_call 54; refine (containsInts_any 55 [] farI vs _ _ (HV.out.stays intAt_stays hbw) enter_far (fun W x _ _ => far_any x W)).mono ?_; rw [HFA.out]; rintro e w2 ⟨rfl, hb2⟩))
        go_ret2
        exact ⟨rfl, bel_tr hbw hb2⟩
      | false =>
        obtain ⟨x0, hx0⟩ : ∃ x, x = gd vs 0 := ⟨_, rfl⟩
        have HV0 := Lib.hid hx0
        by_cases h3 : x0 = 0
        · have g3 : (x0 != 0) = false := by simpa using h3
          obtain ⟨sb, hsb⟩ : ∃ s, (bs.any fun b => !satOne vs b) = s := ⟨_, rfl⟩
          have HSB := Lib.hid hsb
          have HR : Hid (holdsR n bs vs = (!sb, 0)) := Lib.hid (by unfold holdsR; rw [if_pos HZ.out, if_pos h15, HFA.out, if_neg (by simp), if_pos (hx0 ▸ h3), ← satB_not, hsb])
          have hn' : n.toNat = vs.length := by omega
          clear h15 hx0 h3 hsb
          rw [HR.out]
          go_enter Try.func28, Try.ntmps28
          go_wp2_with (first
            | (go_at_call 32; refine (zcheck_any _ bs _ _ (HL.out.stays bdAt_stays (bel_al (bel_one _ _) _))).mono ?_; rw [HE0.out]; rintro e w1 ⟨rfl, hb1⟩; obtain ⟨hz, hr, hrf, hbw, hsz⟩ := two_cells hb1; have z0 : w1.cell? ⟨w.heap.size, 0, none⟩ = some (.int .i64 n) := hz 0; have z1 : w1.cell? ⟨w.heap.size, 1, none⟩ = some (.slice A bs.length c) := hz 1; have q0 : w1.cell? ⟨w.heap.size + 1, 0, none⟩ = some (.slice B vs.length d) := hr 0; clear hb1 hz hr hrf)
            | (go_at_call 54; refine (containsInts_any 55 [] farI vs _ _ (HV.out.stays intAt_stays hbw) enter_far (fun W x _ _ => far_any x W)).mono ?_; rw [HFA.out]; rintro e w2 ⟨rfl, hb2⟩; replace z0 := cell_stays hb2 z0; replace z1 := cell_stays hb2 z1; replace q0 := cell_stays hb2 q0; replace hbw := bel_tr hbw hb2; clear hb2; obtain ⟨gb, ob, rfl, v0⟩ := HBT.out 0 _ (gd_at (by omega)); simp only [Nat.zero_mul, Nat.add_zero] at v0; rw [← HV0.out] at v0; replace v0 : w2.cell? ⟨gb, ob, none⟩ = some (.int .i64 x0) := cell_stays hbw v0)
            | (go_at_call 56; refine (containsBds_any 57 [.pointer (some ⟨w.heap.size + 1, 0, none⟩)] (fun b => !satOne vs b) bs _ _ (HL.out.stays bdAt_stays hbw) enter_unsat (fun W b hW hm => by have hg := HG.out b hm; rw [hn'] at hg; exact unsat_any b vs _ _ _ _ W (HV.out.stays intAt_stays (bel_tr hbw hW)) (cell_stays hW q0) ⟨hg.1, hg.2.1⟩ ⟨hg.2.2.1, hg.2.2.2.1⟩ HFA.out)).mono ?_; rw [HSB.out]; rintro e w3 ⟨rfl, hb3⟩))
          go_ret2
          exact ⟨rfl, bel_tr hbw hb3⟩
        · have g3 : (x0 != 0) = true := by simpa using h3
          have HR : Hid (holdsR n bs vs = (false, 3)) := Lib.hid (by unfold holdsR; rw [if_pos HZ.out, if_pos h15, HFA.out, if_neg (by simp), if_neg (by rw [← hx0]; exact h3)])
          clear h15 hx0 h3
          rw [HR.out]
          go_enter Try.func28, Try.ntmps28
          go_wp2_with (first
            | (go_at_call 32; refine (zcheck_any _ bs _ _ (HL.out.stays bdAt_stays (bel_al (bel_one _ _) _))).mono ?_; rw [HE0.out]; rintro e w1 ⟨rfl, hb1⟩; obtain ⟨hz, hr, hrf, hbw, hsz⟩ := two_cells hb1; have z0 : w1.cell? ⟨w.heap.size, 0, none⟩ = some (.int .i64 n) := hz 0; have z1 : w1.cell? ⟨w.heap.size, 1, none⟩ = some (.slice A bs.length c) := hz 1; have q0 : w1.cell? ⟨w.heap.size + 1, 0, none⟩ = some (.slice B vs.length d) := hr 0; clear hb1 hz hr hrf)
            | (go_at_call 54; refine (containsInts_any 55 [] farI vs _ _ (HV.out.stays intAt_stays hbw) enter_far (fun W x _ _ => far_any x W)).mono ?_; rw [HFA.out]; rintro e w2 ⟨rfl, hb2⟩; replace z0 := cell_stays hb2 z0; replace z1 := cell_stays hb2 z1; replace q0 := cell_stays hb2 q0; replace hbw := bel_tr hbw hb2; clear hb2; obtain ⟨gb, ob, rfl, v0⟩ := HBT.out 0 _ (gd_at (by omega)); simp only [Nat.zero_mul, Nat.add_zero] at v0; rw [← HV0.out] at v0; replace v0 : w2.cell? ⟨gb, ob, none⟩ = some (.int .i64 x0) := cell_stays hbw v0))
          go_ret2
          exact ⟨rfl, hbw⟩
    · have g15 : ((vs.length : Int) != n) = true := by simpa using h15
      have HR : Hid (holdsR n bs vs = (false, 15)) := Lib.hid (by unfold holdsR; rw [if_pos HZ.out, if_neg h15])
      clear h15
      rw [HR.out]
      go_enter Try.func28, Try.ntmps28
      go_wp2_with (go_at_call 32; refine (zcheck_any _ bs _ _ (HL.out.stays bdAt_stays (bel_al (bel_one _ _) _))).mono ?_; rw [HE0.out]; rintro e w1 ⟨rfl, hb1⟩; obtain ⟨hz, hr, hrf, hbw, hsz⟩ := two_cells hb1; have z0 : w1.cell? ⟨w.heap.size, 0, none⟩ = some (.int .i64 n) := hz 0; have z1 : w1.cell? ⟨w.heap.size, 1, none⟩ = some (.slice A bs.length c) := hz 1; have q0 : w1.cell? ⟨w.heap.size + 1, 0, none⟩ = some (.slice B vs.length d) := hr 0; clear hb1 hz hr hrf)
      go_ret2
      exact ⟨rfl, hbw⟩
  · have g0 : (e0 != 0) = true := by simpa using h0
    have HR : Hid (holdsR n bs vs = (false, e0)) := Lib.hid (by unfold holdsR; rw [he0, if_neg h0])
    clear he0 h0
    rw [HR.out]
    go_enter Try.func28, Try.ntmps28
    go_wp2_with (go_at_call 32; refine (zcheck_any _ bs _ _ (HL.out.stays bdAt_stays (bel_al (bel_one _ _) _))).mono ?_; rw [HE0.out]; rintro e w1 ⟨rfl, hb1⟩)
    go_ret2
    exact ⟨rfl, bel_tr (bel_al (bel_one _ _) _) hb1⟩
end Go.Proofs.Ytgecbjjcjemcgaa
