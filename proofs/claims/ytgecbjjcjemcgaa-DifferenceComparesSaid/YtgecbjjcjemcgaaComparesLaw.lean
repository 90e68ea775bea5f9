/- The law DifferenceCompares: Implies, Inside and Meet answer as the reference does. -/
import Derived.Test.YtgecbjjcjemcgaaRows
import Derived.Test.YtgecbjjcjemcgaaDopen
import Derived.Test.YtgecbjjcjemcgaaDawake
import Derived.Test.YtgecbjjcjemcgaaDrcomp2
import Derived.ProofKit
import Derived.OpenShut
import Derived.ChangeOld
import Derived.Below
namespace Go.Proofs.Ytgecbjjcjemcgaa
open Go.ChangeShapes Go.WideShapes Go.ChangeAt Go.RowKit

set_option maxRecDepth 100000 in
set_option maxHeartbeats 2000000 in
theorem compares_walk (na : Int) (xs : List Bd) (va : Value) (nb : Int) (bs : List Bd) (vb : Value) (bd : Bd) (w : World) (ha : IsBds w va xs) (hb : IsBds w vb bs) :
    Calls Try.prog 10 #[zoneV na va, zoneV nb vb, bdV bd] w fun e w' => e = .returned (.bool true) ∧ Below w.heap.size w w' := by
  unfold zoneV bdV
  have HA := Lib.hid ha
  have HB := Lib.hid hb
  obtain ⟨A, ca, rfl, -⟩ := ha
  obtain ⟨B, cb, rfl, -⟩ := hb
  obtain ⟨f1, hf1⟩ : ∃ f1, (decide (na ≤ 6) && decide ((xs.length : Int) ≤ 12)) = f1 := ⟨_, rfl⟩
  obtain ⟨f2, hf2⟩ : ∃ f2, (decide (nb ≤ 6) && decide ((bs.length : Int) ≤ 12)) = f2 := ⟨_, rfl⟩
  have HF1 := Lib.hid hf1
  have HF2 := Lib.hid hf2
  clear hf2
  cases f1 with
  | false =>
    clear hf1
    go_enter Try.func10, Try.ntmps10
    go_wp2_with (first
      | (go_at_call 12; refine (few_any na _ _ _ _).mono ?_; rw [HF1.out]; rintro e w1 ⟨rfl, hb1⟩)
      | (go_at_call 13; refine (awake_any _).mono ?_; rintro e w9 ⟨rfl, hb9⟩))
    go_ret
    exact ⟨rfl, bel_tr (bel_tr (bel_al (bel_al (bel_one _ _) _) _) hb1) hb9⟩
  | true =>
    have hn6 : na ≤ 6 := by simp at hf1; exact hf1.1
    clear hf1
    cases f2 with
    | false =>
      go_enter Try.func10, Try.ntmps10
      go_wp2_with (first
        | (go_at_call 12; first | (have hno := hbw; clear hno; refine (few_any nb _ _ _ _).mono ?_; rw [HF2.out]; rintro e w2 ⟨rfl, hb2⟩; skip) | (refine (few_any na _ _ _ _).mono ?_; rw [HF1.out]; rintro e w1 ⟨rfl, hb1⟩; obtain ⟨hza, hzb, hzc, hrf, hbw, hsz⟩ := three_cells hb1; clear hb1 hrf))
        | (go_at_call 13; refine (awake_any _).mono ?_; rintro e w9 ⟨rfl, hb9⟩))
      go_ret
      exact ⟨rfl, bel_tr (bel_tr hbw hb2) hb9⟩
    | true =>
      obtain ⟨⟨x, e1⟩, h1⟩ : ∃ r, impliesR na xs bd = r := ⟨_, rfl⟩
      obtain ⟨⟨u, e2⟩, h2⟩ : ∃ r, insideR na xs nb bs = r := ⟨_, rfl⟩
      obtain ⟨⟨nm, lm, e3⟩, h3⟩ : ∃ r, meetR na xs nb bs = r := ⟨_, rfl⟩
      have H1 := Lib.hid h1
      have H2 := Lib.hid h2
      have H3 := Lib.hid h3
      clear h1 h2 h3
      go_enter Try.func10, Try.ntmps10
      go_wp2_with (first
        | (go_at_call 12; first | (have hno := hbw; clear hno; refine (few_any nb _ _ _ _).mono ?_; rw [HF2.out]; rintro e w2 ⟨rfl, hb2⟩; have a0 : w2.cell? ⟨w.heap.size, 0, none⟩ = some (.int .i64 na) := (cell_stays hb2 (hza 0)); have a1 : w2.cell? ⟨w.heap.size, 1, none⟩ = some (.slice A xs.length ca) := (cell_stays hb2 (hza 1)); have b0 : w2.cell? ⟨w.heap.size + 1, 0, none⟩ = some (.int .i64 nb) := (cell_stays hb2 (hzb 0)); have b1 : w2.cell? ⟨w.heap.size + 1, 1, none⟩ = some (.slice B bs.length cb) := (cell_stays hb2 (hzb 1)); have c0 : w2.cell? ⟨w.heap.size + 1 + 1, 0, none⟩ = some (.int .i64 bd.x) := (cell_stays hb2 (hzc 0)); have c1 : w2.cell? ⟨w.heap.size + 1 + 1, 1, none⟩ = some (.int .i64 bd.y) := (cell_stays hb2 (hzc 1)); have c2 : w2.cell? ⟨w.heap.size + 1 + 1, 2, none⟩ = some (.int .i64 bd.most) := (cell_stays hb2 (hzc 2)); replace hbw := bel_tr hbw hb2; clear hza hzb hzc hb2) | (refine (few_any na _ _ _ _).mono ?_; rw [HF1.out]; rintro e w1 ⟨rfl, hb1⟩; obtain ⟨hza, hzb, hzc, hrf, hbw, hsz⟩ := three_cells hb1; clear hb1 hrf))
        | (go_at_call 35; refine (implies_any na hn6 xs _ bd _ (HA.out.stays bdAt_stays hbw)).mono ?_; rw [H1.out]; rintro e w3 ⟨rfl, hb3⟩; replace a0 := cell_stays hb3 a0; replace a1 := cell_stays hb3 a1; replace b0 := cell_stays hb3 b0; replace b1 := cell_stays hb3 b1; replace c0 := cell_stays hb3 c0; replace c1 := cell_stays hb3 c1; replace c2 := cell_stays hb3 c2; replace hbw := bel_tr hbw hb3; clear hb3)
        | (go_at_call 36; refine (rimplies_any na hn6 xs _ bd _ (HA.out.stays bdAt_stays hbw)).mono ?_; rw [H1.out]; rintro e w4 ⟨rfl, hb4⟩; replace a0 := cell_stays hb4 a0; replace a1 := cell_stays hb4 a1; replace b0 := cell_stays hb4 b0; replace b1 := cell_stays hb4 b1; replace c0 := cell_stays hb4 c0; replace c1 := cell_stays hb4 c1; replace c2 := cell_stays hb4 c2; replace hbw := bel_tr hbw hb4; clear hb4)
        | (go_at_call 37; refine (inside_any na hn6 xs nb bs _ _ _ (HA.out.stays bdAt_stays hbw) (HB.out.stays bdAt_stays hbw)).mono ?_; rw [H2.out]; rintro e w5 ⟨rfl, hb5⟩; replace a0 := cell_stays hb5 a0; replace a1 := cell_stays hb5 a1; replace b0 := cell_stays hb5 b0; replace b1 := cell_stays hb5 b1; replace c0 := cell_stays hb5 c0; replace c1 := cell_stays hb5 c1; replace c2 := cell_stays hb5 c2; replace hbw := bel_tr hbw hb5; clear hb5)
        | (go_at_call 38; refine (rinside_any na hn6 xs nb bs _ _ _ (HA.out.stays bdAt_stays hbw) (HB.out.stays bdAt_stays hbw)).mono ?_; rw [H2.out]; rintro e w6 ⟨rfl, hb6⟩; replace a0 := cell_stays hb6 a0; replace a1 := cell_stays hb6 a1; replace b0 := cell_stays hb6 b0; replace b1 := cell_stays hb6 b1; replace c0 := cell_stays hb6 c0; replace c1 := cell_stays hb6 c1; replace c2 := cell_stays hb6 c2; replace hbw := bel_tr hbw hb6; clear hb6))
      refine (meet_any na xs nb bs _ _ _ (HA.out.stays bdAt_stays hbw) (HB.out.stays bdAt_stays hbw)).mono ?_
      rw [H3.out]
      rintro e w7 ⟨v7, rfl, hq7, hb7⟩
      replace a0 := cell_stays hb7 a0
      replace a1 := cell_stays hb7 a1
      replace b0 := cell_stays hb7 b0
      replace b1 := cell_stays hb7 b1
      replace c0 := cell_stays hb7 c0
      replace c1 := cell_stays hb7 c1
      replace c2 := cell_stays hb7 c2
      replace hbw := bel_tr hbw hb7
      clear hb7
      simp only at hq7
      have HQ7 := Lib.hid hq7
      obtain ⟨A7, c7, rfl, -⟩ := hq7
      have la : w.heap.size < w7.heap.size := World.block_lt_of_cell? w7 _ a0
      have lb : w.heap.size + 1 < w7.heap.size := World.block_lt_of_cell? w7 _ b0
      simp only [zoneV]
      go_wp2_with fail
      refine (rmeet_any na xs nb bs _ _ _ (HA.out.stays bdAt_stays (bel_al hbw _)) (HB.out.stays bdAt_stays (bel_al hbw _))).mono ?_
      rw [H3.out]
      rintro e w8 ⟨v8, rfl, hq8, hb8⟩
      obtain ⟨hm, -⟩ := new_cells hb8
      have m0 : w8.cell? ⟨w7.heap.size, 0, none⟩ = some (.int .i64 nm) := hm 0
      have m1 : w8.cell? ⟨w7.heap.size, 1, none⟩ = some (.slice A7 lm.length c7) := hm 1
      have lm7 : w7.heap.size < w8.heap.size := World.block_lt_of_cell? w8 _ m0
      have hb78 := bel_tr (bel_one _ _) hb8
      replace hbw := bel_tr hbw hb78
      have HQ78 := Lib.hid (HQ7.out.stays bdAt_stays hb78)
      simp only at hq8
      have HQ8 := Lib.hid hq8
      obtain ⟨A8, c8, rfl, -⟩ := hq8
      clear hm hb8 hb78 a0 a1 b0 b1 c0 c1 c2 la lb
      simp only [zoneV]
      go_wp2_with (first
        | (go_at_call 24; refine (sameZone_eq nm lm _ _ _ (HQ78.out.stays bdAt_stays (bel_one _ _)) (HQ8.out.stays bdAt_stays (bel_one _ _))).mono ?_; rintro e w10 ⟨rfl, hb10⟩)
        | (go_at_call 13; refine (awake_any _).mono ?_; rintro e w9 ⟨rfl, hb9⟩))
      go_ret
      exact ⟨rfl, bel_tr (bel_tr (bel_al hbw _) hb10) hb9⟩

set_option maxRecDepth 100000 in
theorem compares_lifted (os : Os) (started : os.Started) (H : Type) (enc : TypeId × Value → H) :
    ReturnsInHanded {} Try.checked os 10 .any (Rows.differenceComparesSpec.pre6 enc Try.prog Try.f10 Rows.differenceComparesRow.domain false) (Rows.differenceComparesSpec.post enc Try.prog Try.f10 false true false false) := by
  refine returnsInHanded_of_change (C := Try.checked) own_none started (by kernel_rfl) Try.func10
    (ChangeSpec.witness6 (enc := enc) (C := Try.checked) false ⟨#[], #[.agg #[.int .i64 0, .slice none 0 0], .agg #[.int .i64 0, .slice none 0 0], .agg #[.int .i64 0, .int .i64 0, .int .i64 0]], []⟩ 8 (by kernel_rfl) (by kernel_rfl) (by kernel_rfl) (by kernel_rfl)) ?_
  intro W base args ds gs before hval0 hW hcnd _
  have hval : ∀ (j : Nat) t v, Try.f10.params[j]? = some t → args[j]? = some v → Value.okWide Try.prog W .any base t v := hval0
  have hW' := hW
  obtain ⟨p, q, hA0, hV, rfl, hfz, hnd⟩ := hW
  have hA : DataW.TrodAll enc Try.prog W 0 (fun _ => true) true Try.f10.params.toList args.toList ds p := hA0
  rw [Try.params10] at hA hval
  obtain ⟨v0, vs0, d0, ds0, p0, q0, hargs, rfl, rfl, h0, r0⟩ := trodAll_cons hA
  obtain ⟨v1, vs1, d1, ds1, p1, q1, rfl, rfl, rfl, h1, r1⟩ := trodAll_cons r0
  obtain ⟨v2, vs2, d2, ds2, p2, q2, rfl, rfl, rfl, h2, r2⟩ := trodAll_cons r1
  obtain ⟨rfl, rfl, rfl⟩ := trodAll_nil r2
  obtain rfl : args = #[v0, v1, v2] := by cases args; simp_all
  obtain ⟨rfl, rfl⟩ := trodVars_none hV
  have k0 := h0
  have lt0 : ∀ x ∈ p0, x.block < W.heap.size := by obtain ⟨m, hm⟩ := k0; exact DataW.trod_lt m _ _ _ hm
  obtain ⟨x0, l0, u0, rfl, w0⟩ := read_zone_by_value h0
  have k1 := h1
  have lt1 : ∀ x ∈ p1, x.block < W.heap.size := by obtain ⟨m, hm⟩ := k1; exact DataW.trod_lt m _ _ _ hm
  obtain ⟨x1, l1, u1, rfl, w1⟩ := read_zone_by_value h1
  have k2 := h2
  have lt2 : ∀ x ∈ p2, x.block < W.heap.size := by obtain ⟨m, hm⟩ := k2; exact DataW.trod_lt m _ _ _ hm
  obtain ⟨b2, rfl⟩ := read_bound_by_value h2
  clear hA0 hval0
  refine (compares_walk x0 l0 u0 x1 l1 u1 b2 W w0 w1).mono fun e W' ⟨he, bel⟩ => ?_
  subst he
  exact ⟨_, rfl, _, _, _, [], _, [], hW', trodAll_mk1 (shut_bool Try.underlying4 _), (trodAll_cons_mk (Below.trod laid_out (by kernel_rfl) (of_decide_eq_true (by kernel_rfl)) k0 bel lt0) (trodAll_cons_mk (Below.trod laid_out (by kernel_rfl) (of_decide_eq_true (by kernel_rfl)) k1 bel lt1) (trodAll_cons_mk (Below.trod laid_out (by kernel_rfl) (of_decide_eq_true (by kernel_rfl)) k2 bel lt2) trodAll_mk0))), rfl, bel.frame _, fun h => by cases h⟩

theorem compares_over : Rows.differenceComparesRow.holds Try.pinned (OpenSpec.ofChange Rows.differenceComparesSpec) :=
  OpenClaim.holds_of_wide 10 Try.f10 rfl rfl rfl rfl rfl rfl rfl ⟨rfl, rfl, rfl, rfl, rfl⟩ rfl rfl rfl rfl rfl (by kernel_rfl) Try.func10 (by kernel_rfl)
    (of_decide_eq_true (by kernel_rfl)) (by unfold Func.isWrapper; first | (rw [if_pos (by decide +kernel)]; kernel_rfl) | (rw [if_neg (by decide +kernel)]; exact ⟨rfl, rfl⟩))
    (fun os started H enc _ => compares_lifted os started H enc)

theorem compares_holds : Rows.DifferenceComparesSaid := compares_over
#print axioms compares_holds
end Go.Proofs.Ytgecbjjcjemcgaa
