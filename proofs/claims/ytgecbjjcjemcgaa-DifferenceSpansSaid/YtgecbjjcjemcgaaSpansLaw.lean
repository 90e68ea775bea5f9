/- The law DifferenceSpans: the least and the greatest value of an unknown occur in models, and no values beyond them. -/
import Derived.Test.YtgecbjjcjemcgaaRows
import Derived.Test.YtgecbjjcjemcgaaDopen
import Derived.Test.YtgecbjjcjemcgaaDawake
import Derived.Test.YtgecbjjcjemcgaaDplain
import Derived.Test.YtgecbjjcjemcgaaDlaw
import Derived.Test.YtgecbjjcjemcgaaDecidesZn
import Derived.ProofKit
import Derived.OpenShut
import Derived.ChangeOld
import Derived.Below
namespace Go.Proofs.Ytgecbjjcjemcgaa
open Go.ChangeShapes Go.WideShapes Go.ChangeAt Go.RowKit

theorem span_feas {n u : Nat} {bs : List Bd} (hz : zoneErr n bs = 0) (hf : feas n (bs.map ed) = true) (hu : u < n) {lo hi : Int} (hlo : tight n (bs.map ed) 0 u = some lo) (hhi : tight n (bs.map ed) u 0 = some hi) (v : Int) :
    feas n (((bs ++ [(⟨u, 0, v⟩ : Bd)]) ++ [(⟨0, u, -v⟩ : Bd)]).map ed) = decide (-lo ≤ v ∧ v ≤ hi) := by
  obtain ⟨-, -, -, hg⟩ := good_of hz
  rw [Int.toNat_natCast] at hg
  have h := feas_span (good_ok hg) hf (by omega) hu hlo hhi v
  rw [List.map_append, List.map_append]
  have e1 : List.map ed [(⟨(u : Int), 0, v⟩ : Bd)] = [⟨u, 0, v⟩] := by simp [ed]
  have e2 : List.map ed [(⟨0, (u : Int), -v⟩ : Bd)] = [⟨0, u, -v⟩] := by simp [ed]
  rw [e1, e2]
  by_cases hd : -lo ≤ v ∧ v ≤ hi
  · rw [decide_eq_true hd]; exact h.2 hd
  · rw [decide_eq_false hd, ← Bool.not_eq_true]; exact fun h' => hd (h.1 h')
theorem span_model {n u : Nat} {bs : List Bd} (hz : zoneErr n bs = 0) (hf : feas n (bs.map ed) = true) (hu : u < n) {lo hi : Int} (hlo : tight n (bs.map ed) 0 u = some lo) (hhi : tight n (bs.map ed) u 0 = some hi) :
    -lo ≤ gd (modelOf (sums n (bs.map ed))) u ∧ gd (modelOf (sums n (bs.map ed))) u ≤ hi := by
  obtain ⟨-, -, -, hg⟩ := good_of hz
  rw [Int.toNat_natCast] at hg
  have hok := good_ok hg
  have hm := model_sat hok hf
  obtain ⟨⟨fs, hw, hwt⟩, -⟩ := (tight_least hok (feas_sat hf) (by omega : 0 < n) hu).1 lo hlo
  obtain ⟨⟨gs, hw', hwt'⟩, -⟩ := (tight_least hok (feas_sat hf) hu (by omega : 0 < n)).1 hi hhi
  have h6 := way_sat hm hw
  have h7 := way_sat hm hw'
  have h0 : gd (modelOf (sums n (bs.map ed))) 0 = 0 := by rw [gd_modelOf (by rw [sums_len]; omega)]; omega
  omega
theorem span_zone {n u : Nat} {bs : List Bd} (hz : zoneErr n bs = 0) (hl : bs.length ≤ 12) (hu : u < n) {v : Int} (h1 : -1125899906842624 ≤ v) (h2 : v ≤ 1125899906842624) : zoneErr n ((bs ++ [⟨u, 0, v⟩]) ++ [⟨0, u, -v⟩]) = 0 :=
  zoneErr_app (zoneErr_app hz (by omega) (boundErr_ok (by simp only; omega) (by simp only; omega) (by simp only; omega) (by simp only; omega) h1 h2)) (by simp; omega) (boundErr_ok (by simp only; omega) (by simp only; omega) (by simp only; omega) (by simp only; omega) (by simp only; omega) (by simp only; omega))

theorem range_cases {n u : Nat} {bs : List Bd} (hz : zoneErr n bs = 0) (hu : u < n) :
    (feas n (bs.map ed) = false ∧ rangeR n bs u = (0, 0, 24)) ∨ (feas n (bs.map ed) = true ∧ rangeR n bs u = (0, 0, 25)) ∨
      (feas n (bs.map ed) = true ∧ ∃ lo hi, tight n (bs.map ed) 0 u = some lo ∧ tight n (bs.map ed) u 0 = some hi ∧ rangeR n bs u = (-lo, hi, 0)) := by
  unfold rangeR
  rw [if_pos hz, if_neg (by omega), Int.toNat_natCast, Int.toNat_natCast]
  cases hf : feas n (bs.map ed) with
  | false => left; exact ⟨rfl, rfl⟩
  | true =>
    right
    rw [if_pos rfl]
    cases h1 : tight n (bs.map ed) u 0 with
    | none => left; exact ⟨rfl, rfl⟩
    | some hi =>
      cases h2 : tight n (bs.map ed) 0 u with
      | none => left; exact ⟨rfl, rfl⟩
      | some lo => right; exact ⟨rfl, lo, hi, rfl, rfl, rfl⟩

set_option maxRecDepth 100000 in
set_option maxHeartbeats 4000000 in
theorem spans_walk (n : Int) (bs : List Bd) (v : Value) (u : Int) (w : World) (hl : IsBds w v bs) :
    Calls Try.prog 5 #[zoneV n v, .int .i64 u] w fun e w' => e = .returned (.bool true) ∧ Below w.heap.size w w' := by
  unfold zoneV
  have HL := Lib.hid hl
  obtain ⟨A, c, rfl, -⟩ := hl
  obtain ⟨f1, hf1⟩ : ∃ f1, (!([(⟨n, A, bs.length, c, bs⟩ : Zn)].any badZ)) = f1 := ⟨_, rfl⟩
  have HF1 := Lib.hid hf1
  cases f1 with
  | false =>
    clear hf1
    go_enter Try.func5, Try.ntmps5
    go_wp2_with (first
      | (go_at_call 25; refine (good_any [⟨n, A, bs.length, c, bs⟩] _ _ (zns_one _ n A bs.length c _ bs _ (by simp)) (fun z hz => by rw [List.mem_singleton.1 hz]; exact HL.out.stays bdAt_stays (bel_al (bel_one _ _) _))).mono ?_; rw [HF1.out]; rintro e w1 ⟨rfl, hb1⟩)
      | (go_at_call 13; refine (awake_any _).mono ?_; rintro e w2 ⟨rfl, hb2⟩))
    go_ret
    exact ⟨rfl, bel_tr (bel_tr (bel_al (bel_one _ _) _) hb1) hb2⟩
  | true =>
    have hg : n ≤ 6 ∧ bs.length ≤ 12 ∧ zoneErr n bs = 0 := by
      simp [badZ] at hf1
      omega
    obtain ⟨hn6, hl12, hz0⟩ := hg
    have HZ := Lib.hid hz0
    have hn1 := (good_of hz0).1
    clear hf1 hz0
    by_cases hu : u < 0 ∨ n ≤ u
    · by_cases hu0 : u < 0
      · clear hu
        go_enter Try.func5, Try.ntmps5
        go_wp2_with (first
          | (go_at_call 25; refine (good_any [⟨n, A, bs.length, c, bs⟩] _ _ (zns_one _ n A bs.length c _ bs _ (by simp)) (fun z hz => by rw [List.mem_singleton.1 hz]; exact HL.out.stays bdAt_stays (bel_al (bel_one _ _) _))).mono ?_; rw [HF1.out]; rintro e w1 ⟨rfl, hb1⟩)
          | (go_at_call 13; refine (awake_any _).mono ?_; rintro e w2 ⟨rfl, hb2⟩))
        go_ret
        exact ⟨rfl, bel_tr (bel_tr (bel_al (bel_one _ _) _) hb1) hb2⟩
      · have hu1 : n ≤ u := by omega
        clear hu
        go_enter Try.func5, Try.ntmps5
        go_wp2_with (first
          | (go_at_call 25; refine (good_any [⟨n, A, bs.length, c, bs⟩] _ _ (zns_one _ n A bs.length c _ bs _ (by simp)) (fun z hz => by rw [List.mem_singleton.1 hz]; exact HL.out.stays bdAt_stays (bel_al (bel_one _ _) _))).mono ?_; rw [HF1.out]; rintro e w1 ⟨rfl, hb1⟩; obtain ⟨hz, -⟩ := new_cells (bel_tr (bel_one _ _) hb1); have hbw := bel_tr (bel_al (bel_one _ _) _) hb1; have z0 : w1.cell? ⟨w.heap.size, 0, none⟩ = some (.int .i64 n) := hz 0; clear hz hb1)
          | (go_at_call 13; refine (awake_any _).mono ?_; rintro e w2 ⟨rfl, hb2⟩))
        go_ret
        exact ⟨rfl, bel_tr hbw hb2⟩
    · have hu0 : ¬ u < 0 := by omega
      have hu1 : ¬ n ≤ u := by omega
      have HU := Lib.hid hu
      clear hu
      obtain ⟨N, rfl⟩ := Int.eq_ofNat_of_zero_le (by omega : 0 ≤ n)
      obtain ⟨U, rfl⟩ := Int.eq_ofNat_of_zero_le (by omega : 0 ≤ u)
      have hUN : U < N := by omega
      obtain ⟨⟨xl, xh, er⟩, hr⟩ : ∃ r, rangeR N bs U = r := ⟨_, rfl⟩
      have HR := Lib.hid hr
      clear hr
      go_enter Try.func5, Try.ntmps5
      go_wp2_with (first
        | (go_at_call 25; refine (good_any [⟨N, A, bs.length, c, bs⟩] _ _ (zns_one _ N A bs.length c _ bs _ (by simp)) (fun z hz => by rw [List.mem_singleton.1 hz]; exact HL.out.stays bdAt_stays (bel_al (bel_one _ _) _))).mono ?_; rw [HF1.out]; rintro e w1 ⟨rfl, hb1⟩; obtain ⟨hz, -⟩ := new_cells (bel_tr (bel_one _ _) hb1); have hbw := bel_tr (bel_al (bel_one _ _) _) hb1; have z0 : w1.cell? ⟨w.heap.size, 0, none⟩ = some (.int .i64 (N : Int)) := hz 0; have z1 : w1.cell? ⟨w.heap.size, 1, none⟩ = some (.slice A bs.length c) := hz 1; clear hz hb1)
        | (go_at_call 22; refine (range_any N hn6 bs _ U _ (HL.out.stays bdAt_stays hbw)).mono ?_; rw [HR.out]; rintro e w2 ⟨rfl, hb2⟩; replace z0 := cell_stays hb2 z0; replace z1 := cell_stays hb2 z1; replace hbw := bel_tr hbw hb2; have hzl : w.heap.size < w2.heap.size := World.block_lt_of_cell? w2 _ z0; clear hb2))
      refine (zsolve_any N hn6 bs _ _ (HL.out.stays bdAt_stays (bel_al hbw _))).mono ?_
      rintro e w3 ⟨hb3, h3⟩
      obtain ⟨hx, -⟩ := new_cells hb3
      have x0 : w3.cell? ⟨w2.heap.size, 0, none⟩ = some (.int .i64 xl) := hx 0
      have x1 : w3.cell? ⟨w2.heap.size, 1, none⟩ = some (.int .i64 xh) := hx 1
      have hb23 := bel_tr (bel_one _ _) hb3
      replace z0 := cell_stays hb23 z0
      replace z1 := cell_stays hb23 z1
      replace hbw := bel_tr hbw hb23
      clear hx hb3 hb23 hzl
      have hrc := range_cases HZ.out hUN
      rw [HR.out, Int.toNat_natCast] at *
      rcases h3 with ⟨h2, rfl⟩ | ⟨-, hfe, v2, rfl, hq2⟩ | ⟨-, hfe, L, A2, c2, rfl, hcy, hsm, hq2⟩
      · exact absurd HZ.out h2
      · rcases hrc with ⟨h, -⟩ | ⟨-, h⟩ | ⟨-, lo, hi, hlo, hhi, h⟩
        · rw [hfe] at h; cases h
        · injection h with e1 h
          injection h with e2 e3
          subst e1 e2 e3
          obtain ⟨A2, c2, rfl, -⟩ := hq2
          clear hfe
          go_wp2_with (go_at_call 13; refine (awake_any _).mono ?_; rintro e w5 ⟨rfl, hb5⟩)
          go_ret
          exact ⟨rfl, bel_tr hbw hb5⟩
        · injection h with e1 h
          injection h with e2 e3
          subst e2 e3
          have HXL : Hid (xl = -lo) := Lib.hid e1
          have HF := Lib.hid hfe
          have HLO := Lib.hid hlo
          have HHI := Lib.hid hhi
          have hmm := span_model HZ.out hfe hUN hlo hhi
          rw [← e1] at hmm
          clear e1
          have hml : (modelOf (sums N (bs.map ed))).length = N := by rw [modelOf_length, sums_len]
          obtain ⟨M, hM⟩ : ∃ M, M = modelOf (sums N (bs.map ed)) := ⟨_, rfl⟩
          rw [← hM] at hmm hq2 hml
          obtain ⟨A2, c2, rfl, -, -, hmt⟩ := hq2
          obtain ⟨gm, om, rfl, m0⟩ := hmt U _ (gd_at (by omega))
          simp only [Nat.mul_one] at m0
          obtain ⟨mu, hmu⟩ : ∃ a, gd M U = a := ⟨_, rfl⟩
          rw [hmu] at m0 hmm
          replace m0 : w3.cell? ⟨gm, om + U, none⟩ = some (.int .i64 mu) := m0
          clear hfe hlo hhi hM hmt hmu
          have hMN : (M.length : Int) = (N : Int) := by omega
          have gMN : ((M.length : Int) != (N : Int)) = false := by rw [hMN]; simp
          have hUM : (U : Int) < (M.length : Int) := by omega
          clear hml
          by_cases hlow : xl < -1099511627776000
          · go_wp2_with (go_at_call 13; refine (awake_any _).mono ?_; rintro e w5 ⟨rfl, hb5⟩)
            go_ret
            exact ⟨rfl, bel_tr hbw hb5⟩
          · by_cases hhigh : 1099511627776000 < xh
            · go_wp2_with (go_at_call 13; refine (awake_any _).mono ?_; rintro e w5 ⟨rfl, hb5⟩)
              go_ret
              exact ⟨rfl, bel_tr hbw hb5⟩
            · have hw1 : IntKind.i64.wrap (xl - 1) = xl - 1 := IntWalk.i64_in _ (by omega)
              have hw2 : IntKind.i64.wrap (xh + 1) = xh + 1 := IntWalk.i64_in _ (by omega)
              have hm1 : decide (mu < xl) = false := decide_eq_false (by omega)
              have hm2 : decide (xh < mu) = false := decide_eq_false (by omega)
              go_wp2_with fail
              refine wp_region_F (fun W => W.cell? ⟨w.heap.size, 0, none⟩ = some (.int .i64 (N : Int)) ∧ W.cell? ⟨gm, om + U, none⟩ = some (.int .i64 mu) ∧ W.cell? ⟨w2.heap.size, 0, none⟩ = some (.int .i64 xl) ∧ W.cell? ⟨w2.heap.size, 1, none⟩ = some (.int .i64 xh)) (by repeat (first | exact grows_cell _ _ _ | exact grows_true | refine grows_and ?_ ?_)) (by kernel_rfl) (by kernel_rfl) ?hF ?_; (case hF => (first | exact ⟨‹_›, ‹_›⟩ | (go_simp; done) | (simp [*]; done))); intro hne hxx; have hG : Hid (Grows (fun W => W.cell? ⟨w.heap.size, 0, none⟩ = some (.int .i64 (N : Int)) ∧ W.cell? ⟨gm, om + U, none⟩ = some (.int .i64 mu) ∧ W.cell? ⟨w2.heap.size, 0, none⟩ = some (.int .i64 xl) ∧ W.cell? ⟨w2.heap.size, 1, none⟩ = some (.int .i64 xh))) := (by repeat (first | exact grows_cell _ _ _ | exact grows_true | refine grows_and ?_ ?_)); (repeat (go_big_quiet_step (fail))); clear hG hxx hne; refine wpQuiet_nil ?_; rintro wq ⟨⟨w', hb', hF'⟩, rfl⟩
              clear hF'
              replace z0 := cell_stays hb' z0
              replace z1 := cell_stays hb' z1
              replace x0 := cell_stays hb' x0
              replace x1 := cell_stays hb' x1
              replace hbw := bel_tr hbw hb'
              clear hb' m0
              go_wp2_with fail
              refine wp_gen ?_
              intro W5 hW5
              have hb5 : Below wq.heap.size wq W5 := by rw [hW5]; exact bel_one _ _
              have a0 : W5.cell? ⟨wq.heap.size, 0, none⟩ = some (.int .i64 (xl - 1)) := by rw [hW5]; exact (new_cells (Below.refl _ _)).1 0
              have a1 : W5.cell? ⟨wq.heap.size, 1, none⟩ = some (.int .i64 xl) := by rw [hW5]; exact (new_cells (Below.refl _ _)).1 1
              have a2 : W5.cell? ⟨wq.heap.size, 2, none⟩ = some (.int .i64 xh) := by rw [hW5]; exact (new_cells (Below.refl _ _)).1 2
              have a3 : W5.cell? ⟨wq.heap.size, 3, none⟩ = some (.int .i64 (xh + 1)) := by rw [hW5]; exact (new_cells (Below.refl _ _)).1 3
              replace z0 := cell_stays hb5 z0
              replace z1 := cell_stays hb5 z1
              have hbw5 := bel_tr hbw hb5
              clear hW5 x0 x1 hbw
              go_loopw [106] (fun i wr => ∃ k : Nat, k ≤ 4 ∧ i = .int .i64 k ∧ Below W5.heap.size W5 wr) (fun i _ => 4 - (intOf i).toNat)
              case atStart => exact ⟨0, Nat.zero_le _, rfl, Below.refl _ _⟩
              case round =>
                obtain ⟨k, hk, rfl, hb⟩ := hrel
                replace z0 := cell_stays hb z0
                replace z1 := cell_stays hb z1
                by_cases hlt : k < 4
                · have hk4 : k = 0 ∨ k = 1 ∨ k = 2 ∨ k = 3 := by omega
                  clear hlt hk
                  rcases hk4 with rfl | rfl | rfl | rfl
                  · obtain ⟨vk, hvk⟩ : ∃ a, a = xl - 1 := ⟨_, rfl⟩
                    have b1 : wr.cell? ⟨wq.heap.size, 0, none⟩ = some (.int .i64 vk) := by rw [hvk]; exact cell_stays hb a0
                    obtain ⟨nk, hnk⟩ : ∃ a, a = -vk := ⟨_, rfl⟩
                    have hzone := span_zone HZ.out hl12 hUN (v := vk) (by omega) (by omega)
                    obtain ⟨l7, e7⟩ : ∃ l, bs ++ [⟨(U : Int), 0, vk⟩] = l := ⟨_, rfl⟩
                    obtain ⟨l8, e8⟩ : ∃ l, l7 ++ [⟨0, (U : Int), nk⟩] = l := ⟨_, rfl⟩
                    have HS : Hid ((decide (zoneErr (N : Int) l8 = 0) && feas (N : Int).toNat (List.map ed l8)) = false ∧ decide (zoneErr (N : Int) l8 = 0) = true) := Lib.hid (by
                      have hxl := HXL.out
                      rw [← e8, ← e7, hnk, hzone, Int.toNat_natCast, span_feas HZ.out HF.out hUN HLO.out HHI.out]
                      refine ⟨?_, by simp⟩
                      simp only [decide_true, Bool.true_and]
                      exact decide_eq_false (by omega))
                    have hll7 : l7.length ≤ 20 := by rw [← e7]; simp; omega
                    have H7 := Lib.hid e7
                    have H8 := Lib.hid e8
                    have hwn : IntKind.i64.wrap (-vk) = nk := by rw [hnk]; exact IntWalk.i64_in _ (by omega)
                    clear hzone e7 e8 hnk hvk
                    go_wp2_with fail
                    refine (with_any N bs _ U 0 vk _ (HL.out.stays bdAt_stays (bel_tr hbw5 hb)) (by omega)).mono ?_
                    rw [H7.out]
                    rintro e w7 ⟨v7, rfl, hq7, hb7⟩
                    have HQ7 := Lib.hid hq7
                    obtain ⟨A7, c7, rfl, -⟩ := hq7
                    simp only [zoneV]
                    go_wp2_with fail
                    refine (with_any N l7 _ 0 U nk _ HQ7.out (by omega)).mono ?_
                    rw [H8.out]
                    rintro e w8 ⟨v8, rfl, hq8, hb8⟩
                    have HQ8 := Lib.hid hq8
                    obtain ⟨A8, c8, rfl, -⟩ := hq8
                    simp only [zoneV]
                    go_wp2_with fail
                    refine (solvable_any N hn6 l8 _ _ HQ8.out).mono ?_
                    rw [HS.out.1, HS.out.2]
                    rintro e w9 ⟨rfl, hb9⟩
                    go_wp2_with fail
                    go_roundw
                    case rel => exact ⟨0 + 1, by omega, by go_num, bel_tr (bel_tr (bel_tr hb hb7) hb8) hb9⟩
                    case measure => simp [intOf]
                  · obtain ⟨vk, hvk⟩ : ∃ a, a = xl := ⟨_, rfl⟩
                    have b1 : wr.cell? ⟨wq.heap.size, 1, none⟩ = some (.int .i64 vk) := by rw [hvk]; exact cell_stays hb a1
                    obtain ⟨nk, hnk⟩ : ∃ a, a = -vk := ⟨_, rfl⟩
                    have hzone := span_zone HZ.out hl12 hUN (v := vk) (by omega) (by omega)
                    obtain ⟨l7, e7⟩ : ∃ l, bs ++ [⟨(U : Int), 0, vk⟩] = l := ⟨_, rfl⟩
                    obtain ⟨l8, e8⟩ : ∃ l, l7 ++ [⟨0, (U : Int), nk⟩] = l := ⟨_, rfl⟩
                    have HS : Hid ((decide (zoneErr (N : Int) l8 = 0) && feas (N : Int).toNat (List.map ed l8)) = true ∧ decide (zoneErr (N : Int) l8 = 0) = true) := Lib.hid (by
                      have hxl := HXL.out
                      rw [← e8, ← e7, hnk, hzone, Int.toNat_natCast, span_feas HZ.out HF.out hUN HLO.out HHI.out]
                      refine ⟨?_, by simp⟩
                      simp only [decide_true, Bool.true_and]
                      exact decide_eq_true (by omega))
                    have hll7 : l7.length ≤ 20 := by rw [← e7]; simp; omega
                    have H7 := Lib.hid e7
                    have H8 := Lib.hid e8
                    have hwn : IntKind.i64.wrap (-vk) = nk := by rw [hnk]; exact IntWalk.i64_in _ (by omega)
                    clear hzone e7 e8 hnk hvk
                    go_wp2_with fail
                    refine (with_any N bs _ U 0 vk _ (HL.out.stays bdAt_stays (bel_tr hbw5 hb)) (by omega)).mono ?_
                    rw [H7.out]
                    rintro e w7 ⟨v7, rfl, hq7, hb7⟩
                    have HQ7 := Lib.hid hq7
                    obtain ⟨A7, c7, rfl, -⟩ := hq7
                    simp only [zoneV]
                    go_wp2_with fail
                    refine (with_any N l7 _ 0 U nk _ HQ7.out (by omega)).mono ?_
                    rw [H8.out]
                    rintro e w8 ⟨v8, rfl, hq8, hb8⟩
                    have HQ8 := Lib.hid hq8
                    obtain ⟨A8, c8, rfl, -⟩ := hq8
                    simp only [zoneV]
                    go_wp2_with fail
                    refine (solvable_any N hn6 l8 _ _ HQ8.out).mono ?_
                    rw [HS.out.1, HS.out.2]
                    rintro e w9 ⟨rfl, hb9⟩
                    go_wp2_with fail
                    go_roundw
                    case rel => exact ⟨1 + 1, by omega, by go_num, bel_tr (bel_tr (bel_tr hb hb7) hb8) hb9⟩
                    case measure => simp [intOf]
                  · obtain ⟨vk, hvk⟩ : ∃ a, a = xh := ⟨_, rfl⟩
                    have b1 : wr.cell? ⟨wq.heap.size, 2, none⟩ = some (.int .i64 vk) := by rw [hvk]; exact cell_stays hb a2
                    obtain ⟨nk, hnk⟩ : ∃ a, a = -vk := ⟨_, rfl⟩
                    have hzone := span_zone HZ.out hl12 hUN (v := vk) (by omega) (by omega)
                    obtain ⟨l7, e7⟩ : ∃ l, bs ++ [⟨(U : Int), 0, vk⟩] = l := ⟨_, rfl⟩
                    obtain ⟨l8, e8⟩ : ∃ l, l7 ++ [⟨0, (U : Int), nk⟩] = l := ⟨_, rfl⟩
                    have HS : Hid ((decide (zoneErr (N : Int) l8 = 0) && feas (N : Int).toNat (List.map ed l8)) = true ∧ decide (zoneErr (N : Int) l8 = 0) = true) := Lib.hid (by
                      have hxl := HXL.out
                      rw [← e8, ← e7, hnk, hzone, Int.toNat_natCast, span_feas HZ.out HF.out hUN HLO.out HHI.out]
                      refine ⟨?_, by simp⟩
                      simp only [decide_true, Bool.true_and]
                      exact decide_eq_true (by omega))
                    have hll7 : l7.length ≤ 20 := by rw [← e7]; simp; omega
                    have H7 := Lib.hid e7
                    have H8 := Lib.hid e8
                    have hwn : IntKind.i64.wrap (-vk) = nk := by rw [hnk]; exact IntWalk.i64_in _ (by omega)
                    clear hzone e7 e8 hnk hvk
                    go_wp2_with fail
                    refine (with_any N bs _ U 0 vk _ (HL.out.stays bdAt_stays (bel_tr hbw5 hb)) (by omega)).mono ?_
                    rw [H7.out]
                    rintro e w7 ⟨v7, rfl, hq7, hb7⟩
                    have HQ7 := Lib.hid hq7
                    obtain ⟨A7, c7, rfl, -⟩ := hq7
                    simp only [zoneV]
                    go_wp2_with fail
                    refine (with_any N l7 _ 0 U nk _ HQ7.out (by omega)).mono ?_
                    rw [H8.out]
                    rintro e w8 ⟨v8, rfl, hq8, hb8⟩
                    have HQ8 := Lib.hid hq8
                    obtain ⟨A8, c8, rfl, -⟩ := hq8
                    simp only [zoneV]
                    go_wp2_with fail
                    refine (solvable_any N hn6 l8 _ _ HQ8.out).mono ?_
                    rw [HS.out.1, HS.out.2]
                    rintro e w9 ⟨rfl, hb9⟩
                    go_wp2_with fail
                    go_roundw
                    case rel => exact ⟨2 + 1, by omega, by go_num, bel_tr (bel_tr (bel_tr hb hb7) hb8) hb9⟩
                    case measure => simp [intOf]
                  · obtain ⟨vk, hvk⟩ : ∃ a, a = xh + 1 := ⟨_, rfl⟩
                    have b1 : wr.cell? ⟨wq.heap.size, 3, none⟩ = some (.int .i64 vk) := by rw [hvk]; exact cell_stays hb a3
                    obtain ⟨nk, hnk⟩ : ∃ a, a = -vk := ⟨_, rfl⟩
                    have hzone := span_zone HZ.out hl12 hUN (v := vk) (by omega) (by omega)
                    obtain ⟨l7, e7⟩ : ∃ l, bs ++ [⟨(U : Int), 0, vk⟩] = l := ⟨_, rfl⟩
                    obtain ⟨l8, e8⟩ : ∃ l, l7 ++ [⟨0, (U : Int), nk⟩] = l := ⟨_, rfl⟩
                    have HS : Hid ((decide (zoneErr (N : Int) l8 = 0) && feas (N : Int).toNat (List.map ed l8)) = false ∧ decide (zoneErr (N : Int) l8 = 0) = true) := Lib.hid (by
                      have hxl := HXL.out
                      rw [← e8, ← e7, hnk, hzone, Int.toNat_natCast, span_feas HZ.out HF.out hUN HLO.out HHI.out]
                      refine ⟨?_, by simp⟩
                      simp only [decide_true, Bool.true_and]
                      exact decide_eq_false (by omega))
                    have hll7 : l7.length ≤ 20 := by rw [← e7]; simp; omega
                    have H7 := Lib.hid e7
                    have H8 := Lib.hid e8
                    have hwn : IntKind.i64.wrap (-vk) = nk := by rw [hnk]; exact IntWalk.i64_in _ (by omega)
                    clear hzone e7 e8 hnk hvk
                    go_wp2_with fail
                    refine (with_any N bs _ U 0 vk _ (HL.out.stays bdAt_stays (bel_tr hbw5 hb)) (by omega)).mono ?_
                    rw [H7.out]
                    rintro e w7 ⟨v7, rfl, hq7, hb7⟩
                    have HQ7 := Lib.hid hq7
                    obtain ⟨A7, c7, rfl, -⟩ := hq7
                    simp only [zoneV]
                    go_wp2_with fail
                    refine (with_any N l7 _ 0 U nk _ HQ7.out (by omega)).mono ?_
                    rw [H8.out]
                    rintro e w8 ⟨v8, rfl, hq8, hb8⟩
                    have HQ8 := Lib.hid hq8
                    obtain ⟨A8, c8, rfl, -⟩ := hq8
                    simp only [zoneV]
                    go_wp2_with fail
                    refine (solvable_any N hn6 l8 _ _ HQ8.out).mono ?_
                    rw [HS.out.1, HS.out.2]
                    rintro e w9 ⟨rfl, hb9⟩
                    go_wp2_with fail
                    go_roundw
                    case rel => exact ⟨3 + 1, by omega, by go_num, bel_tr (bel_tr (bel_tr hb hb7) hb8) hb9⟩
                    case measure => simp [intOf]
                · obtain rfl : k = 4 := by omega
                  go_wp2_with (go_at_call 13; refine (awake_any _).mono ?_; rintro e w6 ⟨rfl, hb6⟩)
                  go_ret
                  exact ⟨rfl, bel_tr (bel_tr hbw5 hb) hb6⟩
      · rcases hrc with ⟨-, h⟩ | ⟨h, -⟩ | ⟨h, -⟩
        · injection h with e1 h
          injection h with e2 e3
          subst e1 e2 e3
          clear hfe hcy hsm hq2
          go_wp2_with (go_at_call 13; refine (awake_any _).mono ?_; rintro e w5 ⟨rfl, hb5⟩)
          go_ret
          exact ⟨rfl, bel_tr hbw hb5⟩
        · rw [hfe] at h; cases h
        · rw [hfe] at h; cases h

set_option maxRecDepth 100000 in
theorem spans_lifted (os : Os) (started : os.Started) (H : Type) (enc : TypeId × Value → H) :
    ReturnsInHanded {} Try.checked os 5 .any (Rows.differenceSpansSpec.pre6 enc Try.prog Try.f5 Rows.differenceSpansRow.domain false) (Rows.differenceSpansSpec.post enc Try.prog Try.f5 false true false false) := by
  refine returnsInHanded_of_change (C := Try.checked) own_none started (by kernel_rfl) Try.func5
    (ChangeSpec.witness6 (enc := enc) (C := Try.checked) false ⟨#[], #[.agg #[.int .i64 0, .slice none 0 0], .int .i64 0], []⟩ 8 (by kernel_rfl) (by kernel_rfl) (by kernel_rfl) (by kernel_rfl)) ?_
  intro W base args ds gs before hval0 hW hcnd _
  have hval : ∀ (j : Nat) t v, Try.f5.params[j]? = some t → args[j]? = some v → Value.okWide Try.prog W .any base t v := hval0
  have hW' := hW
  obtain ⟨p, q, hA0, hV, rfl, hfz, hnd⟩ := hW
  have hA : DataW.TrodAll enc Try.prog W 0 (fun _ => true) true Try.f5.params.toList args.toList ds p := hA0
  rw [Try.params5] at hA hval
  obtain ⟨v0, vs0, d0, ds0, p0, q0, hargs, rfl, rfl, h0, r0⟩ := trodAll_cons hA
  obtain ⟨v1, vs1, d1, ds1, p1, q1, rfl, rfl, rfl, h1, r1⟩ := trodAll_cons r0
  obtain ⟨rfl, rfl, rfl⟩ := trodAll_nil r1
  obtain rfl : args = #[v0, v1] := by cases args; simp_all
  obtain ⟨rfl, rfl⟩ := trodVars_none hV
  have k0 := h0
  have lt0 : ∀ x ∈ p0, x.block < W.heap.size := by obtain ⟨m, hm⟩ := k0; exact DataW.trod_lt m _ _ _ hm
  obtain ⟨x0, l0, u0, rfl, w0⟩ := read_zone_by_value h0
  have k1 := h1
  have lt1 : ∀ x ∈ p1, x.block < W.heap.size := by obtain ⟨m, hm⟩ := k1; exact DataW.trod_lt m _ _ _ hm
  obtain ⟨a1, e1⟩ : ∃ a, v1 = .int .i64 a := by obtain ⟨a, e, _⟩ := open_int Try.underlying3 (hval 1 3 v1 rfl rfl) h1; exact ⟨a, e⟩
  subst e1
  clear hA0 hval0
  refine (spans_walk x0 l0 u0 a1 W w0).mono fun e W' ⟨he, bel⟩ => ?_
  subst he
  exact ⟨_, rfl, _, _, _, [], _, [], hW', trodAll_mk1 (shut_bool Try.underlying4 _), (trodAll_cons_mk (Below.trod laid_out (by kernel_rfl) (of_decide_eq_true (by kernel_rfl)) k0 bel lt0) (trodAll_cons_mk (Below.trod laid_out (by kernel_rfl) (of_decide_eq_true (by kernel_rfl)) k1 bel lt1) trodAll_mk0)), rfl, bel.frame _, fun h => by cases h⟩

theorem spans_over : Rows.differenceSpansRow.holds Try.pinned (OpenSpec.ofChange Rows.differenceSpansSpec) :=
  OpenClaim.holds_of_wide 5 Try.f5 rfl rfl rfl rfl rfl rfl rfl ⟨rfl, rfl, rfl, rfl, rfl⟩ rfl rfl rfl rfl rfl (by kernel_rfl) Try.func5 (by kernel_rfl)
    (of_decide_eq_true (by kernel_rfl)) (by unfold Func.isWrapper; first | (rw [if_pos (by decide +kernel)]; kernel_rfl) | (rw [if_neg (by decide +kernel)]; exact ⟨rfl, rfl⟩))
    (fun os started H enc _ => spans_lifted os started H enc)

theorem spans_holds : Rows.DifferenceSpansSaid := spans_over
#print axioms spans_holds
end Go.Proofs.Ytgecbjjcjemcgaa
