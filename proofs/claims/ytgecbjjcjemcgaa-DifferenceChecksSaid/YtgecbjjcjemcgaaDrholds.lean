/- Whether values are a model, as the reference finds it. -/
import Derived.Test.YtgecbjjcjemcgaaDholds
namespace Go.Proofs.Ytgecbjjcjemcgaa
open Go.RowKit

theorem satB_no {bs : List Bd} {vs : List Int} {k : Nat} {b : Bd} (h : bs[k]? = some b) (hs : satOne vs b = false) : satB bs vs = false := by
  unfold satB
  rw [List.all_eq_false]
  exact ⟨b, List.mem_of_getElem? h, by simp [hs]⟩
theorem satB_all {bs : List Bd} {vs : List Int} (h : ∀ (j : Nat) (b : Bd), bs[j]? = some b → satOne vs b = true) : satB bs vs = true := by
  unfold satB
  rw [List.all_eq_true]
  intro b hb
  obtain ⟨j, hj⟩ := List.mem_iff_getElem?.1 hb
  exact h j b hj

set_option maxRecDepth 100000 in
set_option maxHeartbeats 2000000 in
theorem rsatisfies_any (n : Int) (bs : List Bd) (v : Value) (vs : List Int) (vv : Value) (w : World) (hl : IsBds w v bs) (hv : IsInts w vv vs) (hg : good vs.length bs) (hf : vs.any farI = false) :
    Calls Try.prog 59 #[zoneV n v, vv] w fun e w' => e = .returned (.bool (satB bs vs)) ∧ Below w.heap.size w w' := by
  unfold zoneV
  obtain ⟨A, c, rfl, h1, h2, hat⟩ := hl
  obtain ⟨B, d, rfl, h3, h4, hbt⟩ := hv
  have hn := len_i64 h1 h2
  have hm := len_i64 h3 h4
  have HA := Lib.hid hat
  have HB := Lib.hid hbt
  have HG := Lib.hid hg
  have HF := Lib.hid hf
  clear h1 h2 h3 h4 hat hbt hg hf
  go_enter Try.func59, Try.ntmps59
  go_wp2_with fail
  refine wp_gen ?_
  intro W0 hW0
  have z1 : W0.cell? ⟨w.heap.size, 1, none⟩ = some (.slice A bs.length c) := by rw [hW0]; exact (new_cells (Below.refl _ _)).1 1
  have hb0 : Below w.heap.size w W0 := by rw [hW0]; exact bel_one _ _
  clear hW0
  go_loopw [5] (fun i wr => ∃ k : Nat, k ≤ bs.length ∧ i = .int .i64 k ∧ Hid (∀ (j : Nat) (b : Bd), bs[j]? = some b → j < k → satOne vs b = true) ∧ Below W0.heap.size W0 wr) (fun i _ => bs.length - (intOf i).toNat)
  case atStart => exact ⟨0, Nat.zero_le _, rfl, fun _ _ _ h => absurd h (by omega), Below.refl _ _⟩
  case round =>
    obtain ⟨k, hk, rfl, hi, hb⟩ := hrel
    have x1 := cell_stays hb z1
    by_cases hlt : k < bs.length
    · have hk' : (k : Int) < (bs.length : Int) := by omega
      have hget := List.getElem?_eq_getElem hlt
      have hgd := HG.out bs[k] (List.getElem_mem hlt)
      obtain ⟨bk, hbk⟩ : ∃ b, b = bs[k] := ⟨_, rfl⟩
      rw [← hbk] at hget hgd
      have HGET := Lib.hid hget
      obtain ⟨gb, ob, rfl, p0, p1, p2⟩ := HA.out k bk hget
      replace p0 := cell_stays (bel_tr hb0 hb) p0
      replace p1 := cell_stays (bel_tr hb0 hb) p1
      replace p2 := cell_stays (bel_tr hb0 hb) p2
      obtain ⟨ss, hss⟩ : ∃ s, satOne vs bk = s := ⟨_, rfl⟩
      have HSS := Lib.hid hss
      clear hget hbk
      obtain ⟨x, y, m⟩ := bk
      simp only at hgd p0 p1 p2
      obtain ⟨X, rfl⟩ := Int.eq_ofNat_of_zero_le hgd.1
      obtain ⟨Y, rfl⟩ := Int.eq_ofNat_of_zero_le hgd.2.2.1
      unfold satOne at hss
      simp only [Int.toNat_natCast] at hss
      obtain ⟨g, o, rfl, c0⟩ := HB.out X _ (gd_at (by omega))
      obtain ⟨g', o', hA, c1⟩ := HB.out Y _ (gd_at (by omega))
      injection hA with hA
      injection hA with e1 e2
      subst e1 e2
      have f1 := far_not HF.out X
      have f2 := far_not HF.out Y
      obtain ⟨vx, hvx⟩ : ∃ a, gd vs X = a := ⟨_, rfl⟩
      obtain ⟨vy, hvy⟩ : ∃ a, gd vs Y = a := ⟨_, rfl⟩
      simp only [hvx] at c0 f1 hss
      simp only [hvy] at c1 f2 hss
      simp only [Nat.mul_one] at c0 c1
      replace c0 : wr.cell? ⟨g, o + X, none⟩ = some (.int .i64 vx) := cell_stays (bel_tr hb0 hb) c0
      replace c1 : wr.cell? ⟨g, o + Y, none⟩ = some (.int .i64 vy) := cell_stays (bel_tr hb0 hb) c1
      have hw : IntKind.i64.wrap (vx - vy) = vx - vy := IntWalk.i64_in _ (by omega)
      have hX : (X : Int) < (vs.length : Int) := by omega
      have hY : (Y : Int) < (vs.length : Int) := by omega
      have l0 := World.block_lt_of_cell? wr _ p0
      simp only at l0
      clear hvx hvy
      go_wp2_with fail
      refine wp_gen ?_
      intro W1 hW1
      have hb1 : Below wr.heap.size wr W1 := by rw [hW1]; exact bel_one _ _
      have y0 : W1.cell? ⟨wr.heap.size, 0, none⟩ = some (.int .i64 (X : Int)) := by rw [hW1]; exact (new_cells (Below.refl _ _)).1 0
      have y1 : W1.cell? ⟨wr.heap.size, 1, none⟩ = some (.int .i64 (Y : Int)) := by rw [hW1]; exact (new_cells (Below.refl _ _)).1 1
      have y2 : W1.cell? ⟨wr.heap.size, 2, none⟩ = some (.int .i64 m) := by rw [hW1]; exact (new_cells (Below.refl _ _)).1 2
      replace c0 := cell_stays hb1 c0
      replace c1 := cell_stays hb1 c1
      clear hW1 p0 p1 p2
      cases ss with
      | true =>
        have hgt : decide (m < vx - vy) = false := by simp at hss ⊢; omega
        clear hss
        refine wp_region_F (fun w => w.cell? ⟨wr.heap.size, 0, none⟩ = some (.int .i64 (X : Int)) ∧ w.cell? ⟨wr.heap.size, 1, none⟩ = some (.int .i64 (Y : Int)) ∧ w.cell? ⟨wr.heap.size, 2, none⟩ = some (.int .i64 m) ∧ w.cell? ⟨g, o + X, none⟩ = some (.int .i64 vx) ∧ w.cell? ⟨g, o + Y, none⟩ = some (.int .i64 vy)) (by repeat (first | exact grows_cell _ _ _ | exact grows_true | refine grows_and ?_ ?_)) (by kernel_rfl) (by kernel_rfl) ?hF ?_; (case hF => (first | exact ⟨‹_›, ‹_›⟩ | (go_simp; done) | (simp [*]; done))); intro hne hxx; have hG : Hid (Grows (fun w => w.cell? ⟨wr.heap.size, 0, none⟩ = some (.int .i64 (X : Int)) ∧ w.cell? ⟨wr.heap.size, 1, none⟩ = some (.int .i64 (Y : Int)) ∧ w.cell? ⟨wr.heap.size, 2, none⟩ = some (.int .i64 m) ∧ w.cell? ⟨g, o + X, none⟩ = some (.int .i64 vx) ∧ w.cell? ⟨g, o + Y, none⟩ = some (.int .i64 vy))) := (by repeat (first | exact grows_cell _ _ _ | exact grows_true | refine grows_and ?_ ?_)); (repeat (go_big_quiet_step (fail))); clear hG hxx hne; refine wpQuiet_nil ?_; rintro _ ⟨⟨w', hb', hF'⟩, rfl⟩
        clear hF'
        go_wp2_with fail
        go_roundw
        case rel => exact ⟨k + 1, by omega, by go_num, fun j b hj hjk => by rcases Nat.lt_or_eq_of_le (Nat.le_of_lt_succ hjk) with h | h; exact hi.out j b hj h; subst h; rw [HGET.out] at hj; injection hj with hj; subst hj; exact HSS.out, bel_tr (bel_tr hb hb1) hb'⟩
        case measure => simp [intOf]; omega
      | false =>
        have hgt : decide (m < vx - vy) = true := by simp at hss ⊢; omega
        clear hss
        refine wp_region_F (fun w => w.cell? ⟨wr.heap.size, 0, none⟩ = some (.int .i64 (X : Int)) ∧ w.cell? ⟨wr.heap.size, 1, none⟩ = some (.int .i64 (Y : Int)) ∧ w.cell? ⟨wr.heap.size, 2, none⟩ = some (.int .i64 m) ∧ w.cell? ⟨g, o + X, none⟩ = some (.int .i64 vx) ∧ w.cell? ⟨g, o + Y, none⟩ = some (.int .i64 vy)) (by repeat (first | exact grows_cell _ _ _ | exact grows_true | refine grows_and ?_ ?_)) (by kernel_rfl) (by kernel_rfl) ?hF ?_; (case hF => (first | exact ⟨‹_›, ‹_›⟩ | (go_simp; done) | (simp [*]; done))); intro hne hxx; have hG : Hid (Grows (fun w => w.cell? ⟨wr.heap.size, 0, none⟩ = some (.int .i64 (X : Int)) ∧ w.cell? ⟨wr.heap.size, 1, none⟩ = some (.int .i64 (Y : Int)) ∧ w.cell? ⟨wr.heap.size, 2, none⟩ = some (.int .i64 m) ∧ w.cell? ⟨g, o + X, none⟩ = some (.int .i64 vx) ∧ w.cell? ⟨g, o + Y, none⟩ = some (.int .i64 vy))) := (by repeat (first | exact grows_cell _ _ _ | exact grows_true | refine grows_and ?_ ?_)); (repeat (go_big_quiet_step (fail))); clear hG hxx hne; refine wpQuiet_nil ?_; rintro _ ⟨⟨w', hb', hF'⟩, rfl⟩
        clear hF'
        go_wp2_with fail
        go_ret
        rw [satB_no HGET.out HSS.out]
        exact ⟨rfl, bel_tr (bel_tr (bel_tr hb0 hb) hb1) hb'⟩
    · go_wp2_with fail
      go_ret
      rw [satB_all (fun j b hj => hi.out j b hj (by have := (List.getElem?_eq_some_iff.1 hj).1; omega))]
      exact ⟨rfl, bel_tr hb0 hb⟩

set_option maxRecDepth 100000 in
set_option maxHeartbeats 2000000 in
theorem rholds_any (n : Int) (bs : List Bd) (v : Value) (vs : List Int) (vv : Value) (w : World) (hl : IsBds w v bs) (hv : IsInts w vv vs) :
    Calls Try.prog 31 #[zoneV n v, vv] w fun e w' => e = .returned (.tuple #[.bool (holdsR n bs vs).1, .int .i64 (holdsR n bs vs).2]) ∧ Below w.heap.size w w' := by
  unfold zoneV
  have HL := Lib.hid hl
  have HV := Lib.hid hv
  obtain ⟨A, c, rfl, -, -, -⟩ := hl
  obtain ⟨B, d, rfl, h3, h4, hbt⟩ := hv
  have hm := len_i64 h3 h4
  have HBT := Lib.hid hbt
  clear hbt h3 h4
  obtain ⟨e0, he0⟩ : ∃ e, zoneErr n bs = e := ⟨_, rfl⟩
  have HE0 := Lib.hid he0
  by_cases h0 : e0 = 0
  · have g0 : (e0 != 0) = false := by simpa using h0
    obtain ⟨hn1, hn64, hlen, hgood⟩ := good_of (he0.trans h0)
    have HZ : Hid (zoneErr n bs = 0) := Lib.hid (he0.trans h0)
    have HG := Lib.hid hgood
    clear he0 h0 hgood
    by_cases h15 : (vs.length : Int) = n
    · have g15 : ((vs.length : Int) != n) = false := by simpa using h15
      have H15 := Lib.hid h15
      have hll : 1 ≤ vs.length := by omega
      have hn' : n.toNat = vs.length := by omega
      rw [hn'] at HG
      clear h15 hn'
      go_enter Try.func31, Try.ntmps31
      go_wp2_with (go_at_call 33; refine (rzcheck_any _ bs _ _ (HL.out.stays bdAt_stays (bel_one _ _))).mono ?_; rw [HE0.out]; rintro e w1 ⟨rfl, hb1⟩; obtain ⟨hz, -⟩ := new_cells hb1; have hbw := bel_tr (bel_one _ _) hb1; have z0 : w1.cell? ⟨w.heap.size, 0, none⟩ = some (.int .i64 n) := hz 0; have z1 : w1.cell? ⟨w.heap.size, 1, none⟩ = some (.slice A bs.length c) := hz 1; clear hb1 hz)
      go_loopw [7] (fun i wr => ∃ k : Nat, k ≤ vs.length ∧ i = .int .i64 k ∧ Hid (∀ (j : Nat) (x : Int), vs[j]? = some x → j < k → farI x = false) ∧ Below w1.heap.size w1 wr) (fun i _ => vs.length - (intOf i).toNat)
      case atStart => exact ⟨0, Nat.zero_le _, rfl, fun _ _ _ h => absurd h (by omega), Below.refl _ _⟩
      case round =>
        obtain ⟨k, hk, rfl, hi, hb⟩ := hrel
        by_cases hlt : k < vs.length
        · have hk' : (k : Int) < (vs.length : Int) := by omega
          have hget := List.getElem?_eq_getElem hlt
          obtain ⟨x, hx⟩ : ∃ b, b = vs[k] := ⟨_, rfl⟩
          rw [← hx] at hget
          have HGET := Lib.hid hget
          obtain ⟨gb, ob, rfl, p0⟩ := HBT.out k x hget
          simp only [Nat.mul_one] at p0
          replace p0 : wr.cell? ⟨gb, ob + k, none⟩ = some (.int .i64 x) := cell_stays (bel_tr hbw hb) p0
          obtain ⟨fx, hfx⟩ : ∃ f, farI x = f := ⟨_, rfl⟩
          have HFX := Lib.hid hfx
          unfold farI at hfx
          clear hget hx
          cases fx with
          | true =>
            have HR : Hid (holdsR n bs vs = (false, 2)) := Lib.hid (by unfold holdsR; rw [if_pos HZ.out, if_pos H15.out, if_pos (List.any_eq_true.2 ⟨x, List.mem_of_getElem? HGET.out, HFX.out⟩)])
            by_cases hlo : x < -1152921504606846976
            · have d1 : decide (x < -1152921504606846976) = true := decide_eq_true hlo
              clear hfx
              go_wp2_with fail
              go_ret2
              rw [HR.out]
              exact ⟨rfl, bel_tr hbw hb⟩
            · have d1 : decide (x < -1152921504606846976) = false := decide_eq_false hlo
              have hhi : 1152921504606846976 < x := by simp at hfx; omega
              have d2 : decide (1152921504606846976 < x) = true := decide_eq_true hhi
              clear hfx
              go_wp2_with fail
              go_ret2
              rw [HR.out]
              exact ⟨rfl, bel_tr hbw hb⟩
          | false =>
            have hlo : ¬ x < -1152921504606846976 := by simp at hfx; omega
            have hhi : ¬ 1152921504606846976 < x := by simp at hfx; omega
            clear hfx
            go_wp2_with fail
            go_roundw
            case rel => exact ⟨k + 1, by omega, by go_num, fun j b hj hjk => by rcases Nat.lt_or_eq_of_le (Nat.le_of_lt_succ hjk) with h | h; exact hi.out j b hj h; subst h; rw [HGET.out] at hj; injection hj with hj; subst hj; exact HFX.out, hb⟩
            case measure => simp [intOf]; omega
        · have HFA : Hid (vs.any farI = false) := Lib.hid (by
            rw [List.any_eq_false]
            intro x hx
            obtain ⟨j, hj⟩ := List.mem_iff_getElem?.1 hx
            rw [hi.out j x hj (by have := (List.getElem?_eq_some_iff.1 hj).1; omega)]
            simp)
          obtain ⟨x0, hx0⟩ : ∃ x, x = gd vs 0 := ⟨_, rfl⟩
          obtain ⟨gb, ob, rfl, v0⟩ := HBT.out 0 _ (gd_at (by omega))
          simp only [Nat.zero_mul, Nat.add_zero] at v0
          rw [← hx0] at v0
          replace v0 : wr.cell? ⟨gb, ob, none⟩ = some (.int .i64 x0) := cell_stays (bel_tr hbw hb) v0
          replace z0 := cell_stays hb z0
          replace z1 := cell_stays hb z1
          by_cases h3 : x0 = 0
          · have g3 : (x0 != 0) = false := by simpa using h3
            obtain ⟨sb, hsb⟩ : ∃ s, satB bs vs = s := ⟨_, rfl⟩
            have HSB := Lib.hid hsb
            have HR : Hid (holdsR n bs vs = (sb, 0)) := Lib.hid (by unfold holdsR; rw [if_pos HZ.out, if_pos H15.out, HFA.out, if_neg (by simp), if_pos (hx0 ▸ h3), hsb])
            clear hx0 h3 hsb
            go_wp2_with (go_at_call 59; refine (rsatisfies_any n bs _ vs _ _ (HL.out.stays bdAt_stays (bel_tr hbw hb)) (HV.out.stays intAt_stays (bel_tr hbw hb)) HG.out HFA.out).mono ?_; rw [HSB.out]; rintro e w3 ⟨rfl, hb3⟩)
            go_ret2
            rw [HR.out]
            exact ⟨rfl, bel_tr (bel_tr hbw hb) hb3⟩
          · have g3 : (x0 != 0) = true := by simpa using h3
            have HR : Hid (holdsR n bs vs = (false, 3)) := Lib.hid (by unfold holdsR; rw [if_pos HZ.out, if_pos H15.out, HFA.out, if_neg (by simp), if_neg (by rw [← hx0]; exact h3)])
            clear hx0 h3
            go_wp2_with fail
            go_ret2
            rw [HR.out]
            exact ⟨rfl, bel_tr hbw hb⟩
    · have g15 : ((vs.length : Int) != n) = true := by simpa using h15
      have HR : Hid (holdsR n bs vs = (false, 15)) := Lib.hid (by unfold holdsR; rw [if_pos HZ.out, if_neg h15])
      clear h15
      rw [HR.out]
      go_enter Try.func31, Try.ntmps31
      go_wp2_with (go_at_call 33; refine (rzcheck_any _ bs _ _ (HL.out.stays bdAt_stays (bel_one _ _))).mono ?_; rw [HE0.out]; rintro e w1 ⟨rfl, hb1⟩; obtain ⟨hz, -⟩ := new_cells hb1; have hbw := bel_tr (bel_one _ _) hb1; have z0 : w1.cell? ⟨w.heap.size, 0, none⟩ = some (.int .i64 n) := hz 0; clear hb1 hz)
      go_ret2
      exact ⟨rfl, hbw⟩
  · have g0 : (e0 != 0) = true := by simpa using h0
    have HR : Hid (holdsR n bs vs = (false, e0)) := Lib.hid (by unfold holdsR; rw [he0, if_neg h0])
    clear he0 h0
    rw [HR.out]
    go_enter Try.func31, Try.ntmps31
    go_wp2_with (go_at_call 33; refine (rzcheck_any _ bs _ _ (HL.out.stays bdAt_stays (bel_one _ _))).mono ?_; rw [HE0.out]; rintro e w1 ⟨rfl, hb1⟩)
    go_ret2
    exact ⟨rfl, bel_tr (bel_one _ _) hb1⟩
end Go.Proofs.Ytgecbjjcjemcgaa
