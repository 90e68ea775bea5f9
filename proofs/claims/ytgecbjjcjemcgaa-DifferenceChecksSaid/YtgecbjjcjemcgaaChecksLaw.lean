/- The law DifferenceChecks: Check, Holds and Verify answer as the reference does. -/
import Derived.Test.YtgecbjjcjemcgaaRows
import Derived.Test.YtgecbjjcjemcgaaDopen
import Derived.Test.YtgecbjjcjemcgaaDawake
import Derived.Test.YtgecbjjcjemcgaaDrholds
import Derived.Test.YtgecbjjcjemcgaaDverify
import Derived.ProofKit
import Derived.OpenShut
import Derived.ChangeOld
import Derived.Below
namespace Go.Proofs.Ytgecbjjcjemcgaa
open Go.ChangeShapes Go.WideShapes Go.ChangeAt Go.RowKit

set_option maxRecDepth 100000 in
set_option maxHeartbeats 1000000 in
theorem checks_walk (n : Int) (bs : List Bd) (v : Value) (vs : List Int) (vv : Value) (w : World) (hl : IsBds w v bs) (hv : IsInts w vv vs) :
    Calls Try.prog 8 #[zoneV n v, vv] w fun e w' => e = .returned (.bool true) ∧ Below w.heap.size w w' := by
  unfold zoneV
  have HL := Lib.hid hl
  have HV := Lib.hid hv
  obtain ⟨A, c, rfl, -⟩ := hl
  obtain ⟨B, d, rfl, -⟩ := hv
  obtain ⟨⟨a, e1⟩, h1⟩ : ∃ r, holdsR n bs vs = r := ⟨_, rfl⟩
  obtain ⟨e2, h2⟩ : ∃ r, zoneErr n bs = r := ⟨_, rfl⟩
  obtain ⟨e3, h3⟩ : ∃ r, verifyR n bs vs = r := ⟨_, rfl⟩
  have H1 := Lib.hid h1
  have H2 := Lib.hid h2
  have H3 := Lib.hid h3
  clear h1 h2 h3
  obtain hm | hm | hm | hm : bs.length ≤ 12 ∨ (12 < bs.length ∧ bs.length ≤ 256) ∨ (256 < bs.length ∧ bs.length ≤ 258) ∨ 258 < bs.length := by omega
  · have ma : ¬ 12 < (bs.length : Int) := by omega
    have mb : (bs.length : Int) ≤ 256 := by omega
    have mc : ¬ 258 < (bs.length : Int) := by omega
    clear hm
    obtain hk | hk | hk | hk : vs.length ≤ 12 ∨ (12 < vs.length ∧ vs.length ≤ 256) ∨ (256 < vs.length ∧ vs.length ≤ 258) ∨ 258 < vs.length := by omega
    · have ka : ¬ 12 < (vs.length : Int) := by omega
      have kb : (vs.length : Int) ≤ 256 := by omega
      have kc : ¬ 258 < (vs.length : Int) := by omega
      clear hk
      go_enter Try.func8, Try.ntmps8
      go_wp2_with (first
        | (go_at_call 28; refine (holds_any n bs _ vs _ _ (HL.out.stays bdAt_stays (bel_one _ _)) (HV.out.stays intAt_stays (bel_one _ _))).mono ?_; rw [H1.out]; rintro e w1 ⟨rfl, hb1⟩; obtain ⟨hz, -⟩ := new_cells hb1; have hbw := bel_tr (bel_one _ _) hb1; have z0 : w1.cell? ⟨w.heap.size, 0, none⟩ = some (.int .i64 n) := hz 0; have z1 : w1.cell? ⟨w.heap.size, 1, none⟩ = some (.slice A bs.length c) := hz 1; clear hz hb1)
        | (go_at_call 31; refine (rholds_any n bs _ vs _ _ (HL.out.stays bdAt_stays hbw) (HV.out.stays intAt_stays hbw)).mono ?_; rw [H1.out]; rintro e w2 ⟨rfl, hb2⟩; replace z0 := cell_stays hb2 z0; replace z1 := cell_stays hb2 z1; replace hbw := bel_tr hbw hb2; clear hb2))
      refine wp_region_F (fun W => W.cell? ⟨w.heap.size, 0, none⟩ = some (.int .i64 n) ∧ W.cell? ⟨w.heap.size, 1, none⟩ = some (.slice A bs.length c)) (by repeat (first | exact grows_cell _ _ _ | exact grows_true | refine grows_and ?_ ?_)) (by kernel_rfl) (by kernel_rfl) ?hF ?_; (case hF => (first | exact ⟨‹_›, ‹_›⟩ | (go_simp; done) | (simp [*]; done))); intro hne hxx; have hG : Hid (Grows (fun W => W.cell? ⟨w.heap.size, 0, none⟩ = some (.int .i64 n) ∧ W.cell? ⟨w.heap.size, 1, none⟩ = some (.slice A bs.length c))) := (by repeat (first | exact grows_cell _ _ _ | exact grows_true | refine grows_and ?_ ?_)); (repeat (go_big_quiet_step ((first | (go_at_call 32; exact cls_callB hG.out (fun W hW => by have h := zcheck_any n bs (.slice A bs.length c) W (HL.out.stays bdAt_stays (bel_tr hbw hW)); rw [H2.out] at h; exact h)) | (go_at_call 33; exact cls_callB hG.out (fun W hW => by have h := rzcheck_any n bs (.slice A bs.length c) W (HL.out.stays bdAt_stays (bel_tr hbw hW)); rw [H2.out] at h; exact h)) | (go_at_call 34; exact cls_callB hG.out (fun W hW => by have h := verify_any n bs (.slice A bs.length c) vs (.slice B vs.length d) W (HL.out.stays bdAt_stays (bel_tr hbw hW)) (HV.out.stays intAt_stays (bel_tr hbw hW)); rw [H3.out] at h; exact h)) | (go_at_call 17; exact cls_callB hG.out (fun W hW => by have h := rverify_any n bs (.slice A bs.length c) vs (.slice B vs.length d) W (HL.out.stays bdAt_stays (bel_tr hbw hW)) (HV.out.stays intAt_stays (bel_tr hbw hW)); rw [H3.out] at h; exact h)) | (go_at_call 13; exact cls_callB hG.out (fun W hW => awake_any W)))))); clear hG hxx hne; refine wpQuiet_nil ?_; rintro _ ⟨⟨w', hb', hF'⟩, rfl⟩
      clear hF'
      go_wp2_with fail
      go_ret
      exact ⟨rfl, bel_tr hbw hb'⟩
    · have ka : 12 < (vs.length : Int) := by omega
      have kb : (vs.length : Int) ≤ 256 := by omega
      have kc : ¬ 258 < (vs.length : Int) := by omega
      clear hk
      go_enter Try.func8, Try.ntmps8
      go_wp2_with (go_at_call 13; refine (awake_any _).mono ?_; rintro e w2 ⟨rfl, hb2⟩)
      go_ret
      exact ⟨rfl, bel_tr (bel_one _ _) hb2⟩
    · have ka : 12 < (vs.length : Int) := by omega
      have kb : ¬ (vs.length : Int) ≤ 256 := by omega
      have kc : ¬ 258 < (vs.length : Int) := by omega
      clear hk
      go_enter Try.func8, Try.ntmps8
      go_wp2_with (first
        | (go_at_call 28; refine (holds_any n bs _ vs _ _ (HL.out.stays bdAt_stays (bel_one _ _)) (HV.out.stays intAt_stays (bel_one _ _))).mono ?_; rw [H1.out]; rintro e w1 ⟨rfl, hb1⟩; obtain ⟨hz, -⟩ := new_cells hb1; have hbw := bel_tr (bel_one _ _) hb1; have z0 : w1.cell? ⟨w.heap.size, 0, none⟩ = some (.int .i64 n) := hz 0; have z1 : w1.cell? ⟨w.heap.size, 1, none⟩ = some (.slice A bs.length c) := hz 1; clear hz hb1)
        | (go_at_call 31; refine (rholds_any n bs _ vs _ _ (HL.out.stays bdAt_stays hbw) (HV.out.stays intAt_stays hbw)).mono ?_; rw [H1.out]; rintro e w2 ⟨rfl, hb2⟩; replace z0 := cell_stays hb2 z0; replace z1 := cell_stays hb2 z1; replace hbw := bel_tr hbw hb2; clear hb2))
      refine wp_region_F (fun W => W.cell? ⟨w.heap.size, 0, none⟩ = some (.int .i64 n) ∧ W.cell? ⟨w.heap.size, 1, none⟩ = some (.slice A bs.length c)) (by repeat (first | exact grows_cell _ _ _ | exact grows_true | refine grows_and ?_ ?_)) (by kernel_rfl) (by kernel_rfl) ?hF ?_; (case hF => (first | exact ⟨‹_›, ‹_›⟩ | (go_simp; done) | (simp [*]; done))); intro hne hxx; have hG : Hid (Grows (fun W => W.cell? ⟨w.heap.size, 0, none⟩ = some (.int .i64 n) ∧ W.cell? ⟨w.heap.size, 1, none⟩ = some (.slice A bs.length c))) := (by repeat (first | exact grows_cell _ _ _ | exact grows_true | refine grows_and ?_ ?_)); (repeat (go_big_quiet_step ((first | (go_at_call 32; exact cls_callB hG.out (fun W hW => by have h := zcheck_any n bs (.slice A bs.length c) W (HL.out.stays bdAt_stays (bel_tr hbw hW)); rw [H2.out] at h; exact h)) | (go_at_call 33; exact cls_callB hG.out (fun W hW => by have h := rzcheck_any n bs (.slice A bs.length c) W (HL.out.stays bdAt_stays (bel_tr hbw hW)); rw [H2.out] at h; exact h)) | (go_at_call 34; exact cls_callB hG.out (fun W hW => by have h := verify_any n bs (.slice A bs.length c) vs (.slice B vs.length d) W (HL.out.stays bdAt_stays (bel_tr hbw hW)) (HV.out.stays intAt_stays (bel_tr hbw hW)); rw [H3.out] at h; exact h)) | (go_at_call 17; exact cls_callB hG.out (fun W hW => by have h := rverify_any n bs (.slice A bs.length c) vs (.slice B vs.length d) W (HL.out.stays bdAt_stays (bel_tr hbw hW)) (HV.out.stays intAt_stays (bel_tr hbw hW)); rw [H3.out] at h; exact h)) | (go_at_call 13; exact cls_callB hG.out (fun W hW => awake_any W)))))); clear hG hxx hne; refine wpQuiet_nil ?_; rintro _ ⟨⟨w', hb', hF'⟩, rfl⟩
      clear hF'
      go_wp2_with fail
      go_ret
      exact ⟨rfl, bel_tr hbw hb'⟩
    · have ka : 12 < (vs.length : Int) := by omega
      have kb : ¬ (vs.length : Int) ≤ 256 := by omega
      have kc : 258 < (vs.length : Int) := by omega
      clear hk
      go_enter Try.func8, Try.ntmps8
      go_wp2_with (go_at_call 13; refine (awake_any _).mono ?_; rintro e w2 ⟨rfl, hb2⟩)
      go_ret
      exact ⟨rfl, bel_tr (bel_one _ _) hb2⟩
  · have ma : 12 < (bs.length : Int) := by omega
    have mb : (bs.length : Int) ≤ 256 := by omega
    have mc : ¬ 258 < (bs.length : Int) := by omega
    clear hm
    go_enter Try.func8, Try.ntmps8
    go_wp2_with (go_at_call 13; refine (awake_any _).mono ?_; rintro e w2 ⟨rfl, hb2⟩)
    go_ret
    exact ⟨rfl, bel_tr (bel_one _ _) hb2⟩
  · have ma : 12 < (bs.length : Int) := by omega
    have mb : ¬ (bs.length : Int) ≤ 256 := by omega
    have mc : ¬ 258 < (bs.length : Int) := by omega
    clear hm
    obtain hk | hk | hk | hk : vs.length ≤ 12 ∨ (12 < vs.length ∧ vs.length ≤ 256) ∨ (256 < vs.length ∧ vs.length ≤ 258) ∨ 258 < vs.length := by omega
    · have ka : ¬ 12 < (vs.length : Int) := by omega
      have kb : (vs.length : Int) ≤ 256 := by omega
      have kc : ¬ 258 < (vs.length : Int) := by omega
      clear hk
      go_enter Try.func8, Try.ntmps8
      go_wp2_with (first
        | (go_at_call 28; refine (holds_any n bs _ vs _ _ (HL.out.stays bdAt_stays (bel_one _ _)) (HV.out.stays intAt_stays (bel_one _ _))).mono ?_; rw [H1.out]; rintro e w1 ⟨rfl, hb1⟩; obtain ⟨hz, -⟩ := new_cells hb1; have hbw := bel_tr (bel_one _ _) hb1; have z0 : w1.cell? ⟨w.heap.size, 0, none⟩ = some (.int .i64 n) := hz 0; have z1 : w1.cell? ⟨w.heap.size, 1, none⟩ = some (.slice A bs.length c) := hz 1; clear hz hb1)
        | (go_at_call 31; refine (rholds_any n bs _ vs _ _ (HL.out.stays bdAt_stays hbw) (HV.out.stays intAt_stays hbw)).mono ?_; rw [H1.out]; rintro e w2 ⟨rfl, hb2⟩; replace z0 := cell_stays hb2 z0; replace z1 := cell_stays hb2 z1; replace hbw := bel_tr hbw hb2; clear hb2))
      refine wp_region_F (fun W => W.cell? ⟨w.heap.size, 0, none⟩ = some (.int .i64 n) ∧ W.cell? ⟨w.heap.size, 1, none⟩ = some (.slice A bs.length c)) (by repeat (first | exact grows_cell _ _ _ | exact grows_true | refine grows_and ?_ ?_)) (by kernel_rfl) (by kernel_rfl) ?hF ?_; (case hF => (first | exact ⟨‹_›, ‹_›⟩ | (go_simp; done) | (simp [*]; done))); intro hne hxx; have hG : Hid (Grows (fun W => W.cell? ⟨w.heap.size, 0, none⟩ = some (.int .i64 n) ∧ W.cell? ⟨w.heap.size, 1, none⟩ = some (.slice A bs.length c))) := (by repeat (first | exact grows_cell _ _ _ | exact grows_true | refine grows_and ?_ ?_)); (repeat (go_big_quiet_step ((first | (go_at_call 32; exact cls_callB hG.out (fun W hW => by have h := zcheck_any n bs (.slice A bs.length c) W (HL.out.stays bdAt_stays (bel_tr hbw hW)); rw [H2.out] at h; exact h)) | (go_at_call 33; exact cls_callB hG.out (fun W hW => by have h := rzcheck_any n bs (.slice A bs.length c) W (HL.out.stays bdAt_stays (bel_tr hbw hW)); rw [H2.out] at h; exact h)) | (go_at_call 34; exact cls_callB hG.out (fun W hW => by have h := verify_any n bs (.slice A bs.length c) vs (.slice B vs.length d) W (HL.out.stays bdAt_stays (bel_tr hbw hW)) (HV.out.stays intAt_stays (bel_tr hbw hW)); rw [H3.out] at h; exact h)) | (go_at_call 17; exact cls_callB hG.out (fun W hW => by have h := rverify_any n bs (.slice A bs.length c) vs (.slice B vs.length d) W (HL.out.stays bdAt_stays (bel_tr hbw hW)) (HV.out.stays intAt_stays (bel_tr hbw hW)); rw [H3.out] at h; exact h)) | (go_at_call 13; exact cls_callB hG.out (fun W hW => awake_any W)))))); clear hG hxx hne; refine wpQuiet_nil ?_; rintro _ ⟨⟨w', hb', hF'⟩, rfl⟩
      clear hF'
      go_wp2_with fail
      go_ret
      exact ⟨rfl, bel_tr hbw hb'⟩
    · have ka : 12 < (vs.length : Int) := by omega
      have kb : (vs.length : Int) ≤ 256 := by omega
      have kc : ¬ 258 < (vs.length : Int) := by omega
      clear hk
      go_enter Try.func8, Try.ntmps8
      go_wp2_with (go_at_call 13; refine (awake_any _).mono ?_; rintro e w2 ⟨rfl, hb2⟩)
      go_ret
      exact ⟨rfl, bel_tr (bel_one _ _) hb2⟩
    · have ka : 12 < (vs.length : Int) := by omega
      have kb : ¬ (vs.length : Int) ≤ 256 := by omega
      have kc : ¬ 258 < (vs.length : Int) := by omega
      clear hk
      go_enter Try.func8, Try.ntmps8
      go_wp2_with (first
        | (go_at_call 28; refine (holds_any n bs _ vs _ _ (HL.out.stays bdAt_stays (bel_one _ _)) (HV.out.stays intAt_stays (bel_one _ _))).mono ?_; rw [H1.out]; rintro e w1 ⟨rfl, hb1⟩; obtain ⟨hz, -⟩ := new_cells hb1; have hbw := bel_tr (bel_one _ _) hb1; have z0 : w1.cell? ⟨w.heap.size, 0, none⟩ = some (.int .i64 n) := hz 0; have z1 : w1.cell? ⟨w.heap.size, 1, none⟩ = some (.slice A bs.length c) := hz 1; clear hz hb1)
        | (go_at_call 31; refine (rholds_any n bs _ vs _ _ (HL.out.stays bdAt_stays hbw) (HV.out.stays intAt_stays hbw)).mono ?_; rw [H1.out]; rintro e w2 ⟨rfl, hb2⟩; replace z0 := cell_stays hb2 z0; replace z1 := cell_stays hb2 z1; replace hbw := bel_tr hbw hb2; clear hb2))
      refine wp_region_F (fun W => W.cell? ⟨w.heap.size, 0, none⟩ = some (.int .i64 n) ∧ W.cell? ⟨w.heap.size, 1, none⟩ = some (.slice A bs.length c)) (by repeat (first | exact grows_cell _ _ _ | exact grows_true | refine grows_and ?_ ?_)) (by kernel_rfl) (by kernel_rfl) ?hF ?_; (case hF => (first | exact ⟨‹_›, ‹_›⟩ | (go_simp; done) | (simp [*]; done))); intro hne hxx; have hG : Hid (Grows (fun W => W.cell? ⟨w.heap.size, 0, none⟩ = some (.int .i64 n) ∧ W.cell? ⟨w.heap.size, 1, none⟩ = some (.slice A bs.length c))) := (by repeat (first | exact grows_cell _ _ _ | exact grows_true | refine grows_and ?_ ?_)); (repeat (go_big_quiet_step ((first | (go_at_call 32; exact cls_callB hG.out (fun W hW => by have h := zcheck_any n bs (.slice A bs.length c) W (HL.out.stays bdAt_stays (bel_tr hbw hW)); rw [H2.out] at h; exact h)) | (go_at_call 33; exact cls_callB hG.out (fun W hW => by have h := rzcheck_any n bs (.slice A bs.length c) W (HL.out.stays bdAt_stays (bel_tr hbw hW)); rw [H2.out] at h; exact h)) | (go_at_call 34; exact cls_callB hG.out (fun W hW => by have h := verify_any n bs (.slice A bs.length c) vs (.slice B vs.length d) W (HL.out.stays bdAt_stays (bel_tr hbw hW)) (HV.out.stays intAt_stays (bel_tr hbw hW)); rw [H3.out] at h; exact h)) | (go_at_call 17; exact cls_callB hG.out (fun W hW => by have h := rverify_any n bs (.slice A bs.length c) vs (.slice B vs.length d) W (HL.out.stays bdAt_stays (bel_tr hbw hW)) (HV.out.stays intAt_stays (bel_tr hbw hW)); rw [H3.out] at h; exact h)) | (go_at_call 13; exact cls_callB hG.out (fun W hW => awake_any W)))))); clear hG hxx hne; refine wpQuiet_nil ?_; rintro _ ⟨⟨w', hb', hF'⟩, rfl⟩
      clear hF'
      go_wp2_with fail
      go_ret
      exact ⟨rfl, bel_tr hbw hb'⟩
    · have ka : 12 < (vs.length : Int) := by omega
      have kb : ¬ (vs.length : Int) ≤ 256 := by omega
      have kc : 258 < (vs.length : Int) := by omega
      clear hk
      go_enter Try.func8, Try.ntmps8
      go_wp2_with (go_at_call 13; refine (awake_any _).mono ?_; rintro e w2 ⟨rfl, hb2⟩)
      go_ret
      exact ⟨rfl, bel_tr (bel_one _ _) hb2⟩
  · have ma : 12 < (bs.length : Int) := by omega
    have mb : ¬ (bs.length : Int) ≤ 256 := by omega
    have mc : 258 < (bs.length : Int) := by omega
    clear hm
    go_enter Try.func8, Try.ntmps8
    go_wp2_with (go_at_call 13; refine (awake_any _).mono ?_; rintro e w2 ⟨rfl, hb2⟩)
    go_ret
    exact ⟨rfl, bel_tr (bel_one _ _) hb2⟩

set_option maxRecDepth 100000 in
theorem checks_lifted (os : Os) (started : os.Started) (H : Type) (enc : TypeId × Value → H) :
    ReturnsInHanded {} Try.checked os 8 .any (Rows.differenceChecksSpec.pre6 enc Try.prog Try.f8 Rows.differenceChecksRow.domain false) (Rows.differenceChecksSpec.post enc Try.prog Try.f8 false true false false) := by
  refine returnsInHanded_of_change (C := Try.checked) own_none started (by kernel_rfl) Try.func8
    (ChangeSpec.witness6 (enc := enc) (C := Try.checked) false ⟨#[], #[.agg #[.int .i64 0, .slice none 0 0], .slice none 0 0], []⟩ 8 (by kernel_rfl) (by kernel_rfl) (by kernel_rfl) (by kernel_rfl)) ?_
  intro W base args ds gs before hval0 hW hcnd _
  have hval : ∀ (j : Nat) t v, Try.f8.params[j]? = some t → args[j]? = some v → Value.okWide Try.prog W .any base t v := hval0
  have hW' := hW
  obtain ⟨p, q, hA0, hV, rfl, hfz, hnd⟩ := hW
  have hA : DataW.TrodAll enc Try.prog W 0 (fun _ => true) true Try.f8.params.toList args.toList ds p := hA0
  rw [Try.params8] at hA hval
  obtain ⟨v0, vs0, d0, ds0, p0, q0, hargs, rfl, rfl, h0, r0⟩ := trodAll_cons hA
  obtain ⟨v1, vs1, d1, ds1, p1, q1, rfl, rfl, rfl, h1, r1⟩ := trodAll_cons r0
  obtain ⟨rfl, rfl, rfl⟩ := trodAll_nil r1
  obtain rfl : args = #[v0, v1] := by cases args; simp_all
  obtain ⟨rfl, rfl⟩ := trodVars_none hV
  have k0 := h0
  have lt0 : ∀ x ∈ p0, x.block < W.heap.size := by obtain ⟨m, hm⟩ := k0; exact DataW.trod_lt m _ _ _ hm
  obtain ⟨x0, l0, u0, rfl, w0⟩ := read_zone_by_value h0
  have k1 := h1
  have lt1 : ∀ x ∈ p1, x.block < W.heap.size := by obtain ⟨m, hm⟩ := k1; exact DataW.trod_lt m _ _ _ hm
  obtain ⟨s1, len1, cap1, rfl⟩ := okWide_slice Try.underlying27 (hval 1 27 v1 rfl rfl)
  obtain ⟨l1, w1⟩ : ∃ l, IsInts W (.slice s1 len1 cap1) l := by obtain ⟨fuel, hf⟩ := h1; exact read_ints (v := .slice s1 len1 cap1) hf
  clear hA0 hval0
  refine (checks_walk x0 l0 u0 l1 _ W w0 w1).mono fun e W' ⟨he, bel⟩ => ?_
  subst he
  exact ⟨_, rfl, _, _, _, [], _, [], hW', trodAll_mk1 (shut_bool Try.underlying4 _), (trodAll_cons_mk (Below.trod laid_out (by kernel_rfl) (of_decide_eq_true (by kernel_rfl)) k0 bel lt0) (trodAll_cons_mk (Below.trod laid_out (by kernel_rfl) (of_decide_eq_true (by kernel_rfl)) k1 bel lt1) trodAll_mk0)), rfl, bel.frame _, fun h => by cases h⟩

theorem checks_over : Rows.differenceChecksRow.holds Try.pinned (OpenSpec.ofChange Rows.differenceChecksSpec) :=
  OpenClaim.holds_of_wide 8 Try.f8 rfl rfl rfl rfl rfl rfl rfl ⟨rfl, rfl, rfl, rfl, rfl⟩ rfl rfl rfl rfl rfl (by kernel_rfl) Try.func8 (by kernel_rfl)
    (of_decide_eq_true (by kernel_rfl)) (by unfold Func.isWrapper; first | (rw [if_pos (by decide +kernel)]; kernel_rfl) | (rw [if_neg (by decide +kernel)]; exact ⟨rfl, rfl⟩))
    (fun os started H enc _ => checks_lifted os started H enc)

theorem checks_holds : Rows.DifferenceChecksSaid := checks_over
#print axioms checks_holds
end Go.Proofs.Ytgecbjjcjemcgaa
