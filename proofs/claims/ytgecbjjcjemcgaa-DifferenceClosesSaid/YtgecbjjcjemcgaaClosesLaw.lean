/- The law DifferenceCloses: Close, Project and Range answer as the reference does. -/
import Derived.Test.YtgecbjjcjemcgaaRows
import Derived.Test.YtgecbjjcjemcgaaDopen
import Derived.Test.YtgecbjjcjemcgaaDawake
import Derived.Test.YtgecbjjcjemcgaaDclose
import Derived.Test.YtgecbjjcjemcgaaDrproj
import Derived.Test.YtgecbjjcjemcgaaDrrange
import Derived.ProofKit
import Derived.OpenShut
import Derived.ChangeOld
import Derived.Below
namespace Go.Proofs.Ytgecbjjcjemcgaa
open Go.ChangeShapes Go.WideShapes Go.ChangeAt Go.RowKit

set_option maxRecDepth 100000 in
set_option maxHeartbeats 1000000 in
theorem closes_walk (n : Int) (bs : List Bd) (v : Value) (u : Int) (w : World) (hl : IsBds w v bs) :
    Calls Try.prog 4 #[zoneV n v, .int .i64 u] w fun e w' => e = .returned (.bool true) ∧ Below w.heap.size w w' := by
  unfold zoneV
  have HL := Lib.hid hl
  obtain ⟨A, c, rfl, -⟩ := hl
  obtain ⟨f1, hf1⟩ : ∃ f1, (decide (n ≤ 6) && decide ((bs.length : Int) ≤ 12)) = f1 := ⟨_, rfl⟩
  have HF1 := Lib.hid hf1
  cases f1 with
  | false =>
    clear hf1
    go_enter Try.func4, Try.ntmps4
    go_wp2_with (first
      | (go_at_call 12; refine (few_any n _ _ _ _).mono ?_; rw [HF1.out]; rintro e w1 ⟨rfl, hb1⟩)
      | (go_at_call 13; refine (awake_any _).mono ?_; rintro e w2 ⟨rfl, hb2⟩))
    go_ret
    exact ⟨rfl, bel_tr (bel_tr (bel_one _ _) hb1) hb2⟩
  | true =>
    have hn6 : n ≤ 6 := by simp at hf1; exact hf1.1
    clear hf1
    obtain ⟨⟨n1, l1, e1⟩, h1⟩ : ∃ r, closeR n bs = r := ⟨_, rfl⟩
    obtain ⟨⟨n2, l2, e2⟩, h2⟩ : ∃ r, projectR n bs u = r := ⟨_, rfl⟩
    obtain ⟨⟨x3, y3, e3⟩, h3⟩ : ∃ r, rangeR n bs u = r := ⟨_, rfl⟩
    have H1 := Lib.hid h1
    have H2 := Lib.hid h2
    have H3 := Lib.hid h3
    clear h1 h2 h3
    go_enter Try.func4, Try.ntmps4
    go_wp2_with (go_at_call 12; refine (few_any n _ _ _ _).mono ?_; rw [HF1.out]; rintro e w1 ⟨rfl, hb1⟩; obtain ⟨hz, -⟩ := new_cells hb1; have hbw1 := bel_tr (bel_one _ _) hb1; have hsz : w.heap.size < w1.heap.size := by (have := hb1.size; simp at this; omega))
    refine (close_any n hn6 bs _ _ (HL.out.stays bdAt_stays hbw1)).mono ?_
    rw [H1.out]
    rintro e w2 ⟨v2, rfl, hq2, hb2⟩
    have hbw2 := bel_tr hbw1 hb2
    have z2 := arr_keep hz hsz hb2
    clear hz hb1 hbw1
    simp only at hq2
    have HQ2 := Lib.hid hq2
    obtain ⟨A2, c2, rfl, -⟩ := hq2
    simp only [zoneV]
    have zz2 : w2.cell? ⟨w.heap.size, 0, none⟩ = some (.int .i64 n) := z2 0
    have zy2 : w2.cell? ⟨w.heap.size, 1, none⟩ = some (.slice A bs.length c) := z2 1
    have HZ := Lib.hid (And.intro zz2 zy2)
    clear z2 hsz hb2
    have lt2 : w.heap.size < w2.heap.size := World.block_lt_of_cell? w2 _ zz2
    go_wp2_with fail
    refine (rclose_any n hn6 bs _ _ (HL.out.stays bdAt_stays (bel_al hbw2 _))).mono ?_
    rw [H1.out]
    rintro e w3 ⟨v3, rfl, hq3, hb3⟩
    obtain ⟨ha3, -⟩ := new_cells hb3
    have ha30 : w3.cell? ⟨w2.heap.size, 0, none⟩ = some (.int .i64 n1) := ha3 0
    have ha31 : w3.cell? ⟨w2.heap.size, 1, none⟩ = some (.slice A2 l1.length c2) := ha3 1
    have hb23 := bel_tr (bel_one _ _) hb3
    simp only at hq3
    have HQ3 := Lib.hid hq3
    obtain ⟨A3, c3, rfl, -⟩ := hq3
    have HZ3 := Lib.hid (And.intro (cell_stays hb23 HZ.out.1) (cell_stays hb23 HZ.out.2))
    have HA3 := Lib.hid (And.intro ha30 ha31)
    have HB3 := Lib.hid (bel_tr hbw2 hb23)
    have HQ23 := Lib.hid (HQ2.out.stays bdAt_stays hb23)
    clear ha3 ha30 ha31 hb3 zz2 zy2 HZ HQ2 hbw2 hb23
    have zz3 := HZ3.out.1
    have zy3 := HZ3.out.2
    have lt3 : w.heap.size < w3.heap.size := World.block_lt_of_cell? w3 _ zz3
    simp only [zoneV]
    go_wp2_with fail
    refine (project_any n hn6 bs _ _ _ (HL.out.stays bdAt_stays (bel_al HB3.out _))).mono ?_
    rw [H2.out]
    rintro e w4 ⟨v4, rfl, hq4, hb4⟩
    obtain ⟨ha4, -⟩ := new_cells hb4
    have ha40 : w4.cell? ⟨w3.heap.size, 0, none⟩ = some (.int .i64 n1) := ha4 0
    have ha41 : w4.cell? ⟨w3.heap.size, 1, none⟩ = some (.slice A3 l1.length c3) := ha4 1
    have hb34 := bel_tr (bel_one _ _) hb4
    simp only at hq4
    have HQ4 := Lib.hid hq4
    obtain ⟨A4, c4, rfl, -⟩ := hq4
    have HZ4 := Lib.hid (And.intro (cell_stays hb34 HZ3.out.1) (cell_stays hb34 HZ3.out.2))
    have HA4 := Lib.hid (And.intro ha40 ha41)
    have HB34 := Lib.hid hb34
    have HB4 := Lib.hid (bel_tr HB3.out hb34)
    clear ha4 ha40 ha41 hb4 zz3 zy3 HZ3 hb34
    have zz4 := HZ4.out.1
    have zy4 := HZ4.out.2
    have lt4 : w.heap.size < w4.heap.size := World.block_lt_of_cell? w4 _ zz4
    simp only [zoneV]
    go_wp2_with fail
    refine (rproject_any n hn6 bs _ _ _ (HL.out.stays bdAt_stays (bel_al HB4.out _))).mono ?_
    rw [H2.out]
    rintro e w5 ⟨v5, rfl, hq5, hb5⟩
    obtain ⟨ha5, -⟩ := new_cells hb5
    have ha50 : w5.cell? ⟨w4.heap.size, 0, none⟩ = some (.int .i64 n2) := ha5 0
    have ha51 : w5.cell? ⟨w4.heap.size, 1, none⟩ = some (.slice A4 l2.length c4) := ha5 1
    have hb45 := bel_tr (bel_one _ _) hb5
    simp only at hq5
    have HQ5 := Lib.hid hq5
    obtain ⟨A5, c5, rfl, -⟩ := hq5
    have HZ5 := Lib.hid (And.intro (cell_stays hb45 HZ4.out.1) (cell_stays hb45 HZ4.out.2))
    have HA5 := Lib.hid (And.intro ha50 ha51)
    have HB45 := Lib.hid hb45
    have HB5 := Lib.hid (bel_tr HB4.out hb45)
    clear ha5 ha50 ha51 hb5 zz4 zy4 HZ4 hb45
    have zz5 := HZ5.out.1
    have zy5 := HZ5.out.2
    have lt5 : w.heap.size < w5.heap.size := World.block_lt_of_cell? w5 _ zz5
    simp only [zoneV]
    go_wp2_with fail
    refine (range_any n hn6 bs _ _ _ (HL.out.stays bdAt_stays (bel_al HB5.out _))).mono ?_
    rw [H3.out]
    rintro e w6 ⟨rfl, hb6⟩
    obtain ⟨ha6, -⟩ := new_cells hb6
    have ha60 : w6.cell? ⟨w5.heap.size, 0, none⟩ = some (.int .i64 n2) := ha6 0
    have ha61 : w6.cell? ⟨w5.heap.size, 1, none⟩ = some (.slice A5 l2.length c5) := ha6 1
    have hb56 := bel_tr (bel_one _ _) hb6
    have HZ6 := Lib.hid (And.intro (cell_stays hb56 HZ5.out.1) (cell_stays hb56 HZ5.out.2))
    have HA6 := Lib.hid (And.intro ha60 ha61)
    have HB56 := Lib.hid hb56
    have HB6 := Lib.hid (bel_tr HB5.out hb56)
    clear ha6 ha60 ha61 hb6 zz5 zy5 HZ5 hb56
    have zz6 := HZ6.out.1
    have zy6 := HZ6.out.2
    have lt6 : w.heap.size < w6.heap.size := World.block_lt_of_cell? w6 _ zz6
    go_wp2_with fail
    refine (rrange_any n hn6 bs _ _ _ (HL.out.stays bdAt_stays (bel_al HB6.out _))).mono ?_
    rw [H3.out]
    rintro e w7 ⟨rfl, hb7⟩
    obtain ⟨ha7, -⟩ := new_cells hb7
    have ha70 : w7.cell? ⟨w6.heap.size, 0, none⟩ = some (.int .i64 x3) := ha7 0
    have ha71 : w7.cell? ⟨w6.heap.size, 1, none⟩ = some (.int .i64 y3) := ha7 1
    have hb67 := bel_tr (bel_one _ _) hb7
    have HB7 := Lib.hid (bel_tr HB6.out hb67)
    have hb57 := bel_tr HB56.out hb67
    have hb47 := bel_tr HB45.out hb57
    have hb37 := bel_tr HB34.out hb47
    have a0 := cell_stays hb37 HA3.out.1
    have a1 := cell_stays hb37 HA3.out.2
    have b0 := cell_stays hb47 HA4.out.1
    have b1 := cell_stays hb47 HA4.out.2
    have c0 := cell_stays hb57 HA5.out.1
    have c1 := cell_stays hb57 HA5.out.2
    have d0 := cell_stays hb67 HA6.out.1
    have d1 := cell_stays hb67 HA6.out.2
    have HQa := Lib.hid (HQ23.out.stays bdAt_stays hb37)
    have HQb := Lib.hid (HQ3.out.stays bdAt_stays hb37)
    have HQc := Lib.hid (HQ4.out.stays bdAt_stays hb47)
    have HQd := Lib.hid (HQ5.out.stays bdAt_stays hb57)
    have la : w2.heap.size < w7.heap.size := World.block_lt_of_cell? w7 _ a0
    have lb : w3.heap.size < w7.heap.size := World.block_lt_of_cell? w7 _ b0
    have lc : w4.heap.size < w7.heap.size := World.block_lt_of_cell? w7 _ c0
    have ld : w5.heap.size < w7.heap.size := World.block_lt_of_cell? w7 _ d0
    have lx : w6.heap.size < w7.heap.size := World.block_lt_of_cell? w7 _ ha70
    clear ha7 hb7 zz6 zy6 HZ6 hb67 hb57 hb47 hb37 HA3 HA4 HA5 HA6 HQ23 HQ3 HQ4 HQ5
    go_wp2_with fail
    refine (sameZone_eq n1 l1 _ _ _ (HQa.out.stays bdAt_stays (bel_one _ _)) (HQb.out.stays bdAt_stays (bel_one _ _))).mono ?_
    rintro e w8 ⟨rfl, hb8⟩
    obtain ⟨ha8, -⟩ := new_cells hb8
    have y0 : w8.cell? ⟨w7.heap.size, 0, none⟩ = some (.int .i64 x3) := ha8 0
    have y1 : w8.cell? ⟨w7.heap.size, 1, none⟩ = some (.int .i64 y3) := ha8 1
    have hb78 := bel_tr (bel_one _ _) hb8
    replace c0 := cell_stays hb78 c0
    replace c1 := cell_stays hb78 c1
    replace d0 := cell_stays hb78 d0
    replace d1 := cell_stays hb78 d1
    replace ha70 := cell_stays hb78 ha70
    replace ha71 := cell_stays hb78 ha71
    have HQc8 := Lib.hid (HQc.out.stays bdAt_stays hb78)
    have HQd8 := Lib.hid (HQd.out.stays bdAt_stays hb78)
    have HB8 := Lib.hid (bel_tr HB7.out hb78)
    clear ha8 hb8 hb78 a0 a1 b0 b1 la lb lc ld lx HQc HQd
    go_wp2_with (go_at_call 24; refine (sameZone_eq n2 l2 _ _ _ HQc8.out HQd8.out).mono ?_; rintro e w9 ⟨rfl, hb9⟩; have HB9 := Lib.hid (bel_tr HB8.out hb9); replace ha70 := cell_stays hb9 ha70; replace ha71 := cell_stays hb9 ha71; replace y0 := cell_stays hb9 y0; replace y1 := cell_stays hb9 y1; clear c0 c1 d0 d1 hb9)
    refine (awake_any _).mono ?_
    rintro e w10 ⟨rfl, hb10⟩
    go_wp2_with fail
    go_ret
    exact ⟨rfl, bel_tr HB9.out hb10⟩

set_option maxRecDepth 100000 in
theorem closes_lifted (os : Os) (started : os.Started) (H : Type) (enc : TypeId × Value → H) :
    ReturnsInHanded {} Try.checked os 4 .any (Rows.differenceClosesSpec.pre6 enc Try.prog Try.f4 Rows.differenceClosesRow.domain false) (Rows.differenceClosesSpec.post enc Try.prog Try.f4 false true false false) := by
  refine returnsInHanded_of_change (C := Try.checked) own_none started (by kernel_rfl) Try.func4
    (ChangeSpec.witness6 (enc := enc) (C := Try.checked) false ⟨#[], #[.agg #[.int .i64 0, .slice none 0 0], .int .i64 0], []⟩ 8 (by kernel_rfl) (by kernel_rfl) (by kernel_rfl) (by kernel_rfl)) ?_
  intro W base args ds gs before hval0 hW hcnd _
  have hval : ∀ (j : Nat) t v, Try.f4.params[j]? = some t → args[j]? = some v → Value.okWide Try.prog W .any base t v := hval0
  have hW' := hW
  obtain ⟨p, q, hA0, hV, rfl, hfz, hnd⟩ := hW
  have hA : DataW.TrodAll enc Try.prog W 0 (fun _ => true) true Try.f4.params.toList args.toList ds p := hA0
  rw [Try.params4] at hA hval
  obtain ⟨v0, vs0, d0, ds0, p0, q0, hargs, rfl, rfl, h0, r0⟩ := trodAll_cons hA
  obtain ⟨v1, vs1, d1, ds1, p1, q1, rfl, rfl, rfl, h1, r1⟩ := trodAll_cons r0
  obtain ⟨rfl, rfl, rfl⟩ := trodAll_nil r1
  obtain rfl : args = #[v0, v1] := by cases args; simp_all
  obtain ⟨rfl, rfl⟩ := trodVars_none hV
  have k0 := h0
  have lt0 : ∀ x ∈ p0, x.block < W.heap.size := by obtain ⟨m, hm⟩ := k0; exact DataW.trod_lt m _ _ _ hm
  obtain ⟨x0, l0, u0, rfl, w0⟩ := read_zone_by_value h0
  have k1 := h1
  have lt1 : ∀ x ∈ p1, x.block < W.heap.size := by obtain ⟨m, hm⟩ := k1; exact DataW.trod_lt m _ _ _ hm
  obtain ⟨a1, e1⟩ : ∃ a, v1 = .int .i64 a := by obtain ⟨a, e, _⟩ := open_int Try.underlying3 (hval 1 3 v1 rfl rfl) h1; exact ⟨a, e⟩
  subst e1
  clear hA0 hval0
  refine (closes_walk x0 l0 u0 a1 W w0).mono fun e W' ⟨he, bel⟩ => ?_
  subst he
  exact ⟨_, rfl, _, _, _, [], _, [], hW', trodAll_mk1 (shut_bool Try.underlying4 _), (trodAll_cons_mk (Below.trod laid_out (by kernel_rfl) (of_decide_eq_true (by kernel_rfl)) k0 bel lt0) (trodAll_cons_mk (Below.trod laid_out (by kernel_rfl) (of_decide_eq_true (by kernel_rfl)) k1 bel lt1) trodAll_mk0)), rfl, bel.frame _, fun h => by cases h⟩

theorem closes_over : Rows.differenceClosesRow.holds Try.pinned (OpenSpec.ofChange Rows.differenceClosesSpec) :=
  OpenClaim.holds_of_wide 4 Try.f4 rfl rfl rfl rfl rfl rfl rfl ⟨rfl, rfl, rfl, rfl, rfl⟩ rfl rfl rfl rfl rfl (by kernel_rfl) Try.func4 (by kernel_rfl)
    (of_decide_eq_true (by kernel_rfl)) (by unfold Func.isWrapper; first | (rw [if_pos (by decide +kernel)]; kernel_rfl) | (rw [if_neg (by decide +kernel)]; exact ⟨rfl, rfl⟩))
    (fun os started H enc _ => closes_lifted os started H enc)

theorem closes_holds : Rows.DifferenceClosesSaid := closes_over
#print axioms closes_holds
end Go.Proofs.Ytgecbjjcjemcgaa
