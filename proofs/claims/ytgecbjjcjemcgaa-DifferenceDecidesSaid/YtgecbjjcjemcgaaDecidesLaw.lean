/- The law DifferenceDecides: a zone has a model or a contradiction. -/
import Derived.Test.YtgecbjjcjemcgaaRows
import Derived.Test.YtgecbjjcjemcgaaDopen
import Derived.Test.YtgecbjjcjemcgaaDawake
import Derived.Test.YtgecbjjcjemcgaaDplain
import Derived.Test.YtgecbjjcjemcgaaDlaw
import Derived.Test.YtgecbjjcjemcgaaDcyc
import Derived.Test.YtgecbjjcjemcgaaDverify
import Derived.ProofKit
import Derived.OpenShut
import Derived.ChangeOld
import Derived.Below
namespace Go.Proofs.Ytgecbjjcjemcgaa
open Go.ChangeShapes Go.WideShapes Go.ChangeAt Go.RowKit

theorem zns_one (W : World) (n : Int) (A : Option Addr) (m c k : Nat) (bs : List Bd) (t : TypeId) (hk : k = W.heap.size) : IsZns (W.alloc (.cells #[.int .i64 n, .slice A m c] t)) (.slice (some ⟨k, 0, none⟩) 1 1) [⟨n, A, m, c, bs⟩] := by
  subst hk
  refine ⟨_, _, rfl, Nat.le_refl _, by unfold maxLen; simp, ?_⟩
  intro i x hi
  cases i with
  | zero =>
    simp at hi; subst hi
    exact ⟨_, _, rfl, by simp, by simp⟩
  | succ i => simp at hi

set_option maxRecDepth 100000 in
set_option maxHeartbeats 1000000 in
theorem decides_walk (n : Int) (bs : List Bd) (v : Value) (vs : List Int) (vv : Value) (w : World) (hl : IsBds w v bs) (hv : IsInts w vv vs) :
    Calls Try.prog 9 #[zoneV n v, vv] w fun e w' => e = .returned (.bool true) ∧ Below w.heap.size w w' := by
  unfold zoneV
  have HL := Lib.hid hl
  have HV := Lib.hid hv
  obtain ⟨A, c, rfl, -⟩ := hl
  obtain ⟨B, d, rfl, -⟩ := hv
  obtain ⟨f1, hf1⟩ : ∃ f1, (!([(⟨n, A, bs.length, c, bs⟩ : Zn)].any badZ)) = f1 := ⟨_, rfl⟩
  have HF1 := Lib.hid hf1
  cases f1 with
  | false =>
    clear hf1
    go_enter Try.func9, Try.ntmps9
    go_wp2_with (first
      | (go_at_call 25; refine (good_any [⟨n, A, bs.length, c, bs⟩] _ _ (zns_one _ n A bs.length c _ bs _ (by simp)) (fun z hz => by rw [List.mem_singleton.1 hz]; exact HL.out.stays bdAt_stays (bel_al (bel_one _ _) _))).mono ?_; rw [HF1.out]; rintro e w1 ⟨rfl, hb1⟩)
      | (go_at_call 13; refine (awake_any _).mono ?_; rintro e w2 ⟨rfl, hb2⟩))
    go_ret
    exact ⟨rfl, bel_tr (bel_tr (bel_al (bel_one _ _) _) hb1) hb2⟩
  | true =>
    have hg : n ≤ 6 ∧ bs.length ≤ 12 ∧ zoneErr n bs = 0 := by
      simp [badZ] at hf1
      omega
    obtain ⟨hn6, hl12, hz0⟩ := hg
    have HZ := Lib.hid hz0
    clear hf1 hz0
    go_enter Try.func9, Try.ntmps9
    go_wp2_with (go_at_call 25; refine (good_any [⟨n, A, bs.length, c, bs⟩] _ _ (zns_one _ n A bs.length c _ bs _ (by simp)) (fun z hz => by rw [List.mem_singleton.1 hz]; exact HL.out.stays bdAt_stays (bel_al (bel_one _ _) _))).mono ?_; rw [HF1.out]; rintro e w1 ⟨rfl, hb1⟩; obtain ⟨hz, -⟩ := new_cells (bel_tr (bel_one _ _) hb1); have hbw := bel_tr (bel_al (bel_one _ _) _) hb1; have z0 : w1.cell? ⟨w.heap.size, 0, none⟩ = some (.int .i64 n) := hz 0; have z1 : w1.cell? ⟨w.heap.size, 1, none⟩ = some (.slice A bs.length c) := hz 1; clear hz hb1)
    refine (zsolve_any n hn6 bs _ _ (HL.out.stays bdAt_stays hbw)).mono ?_
    rintro e w2 ⟨hb2, h2⟩
    replace z0 := cell_stays hb2 z0
    replace z1 := cell_stays hb2 z1
    replace hbw := bel_tr hbw hb2
    clear hb2
    rcases h2 with ⟨h2, rfl⟩ | ⟨-, hfe, v2, rfl, hq2⟩ | ⟨-, hfe, L, A2, c2, rfl, hcy, hsm, hq2⟩
    · exact absurd HZ.out h2
    · have HH := Lib.hid (model_holds HZ.out hn6 (by omega) hfe)
      obtain ⟨M, hM⟩ : ∃ M, M = modelOf (sums n.toNat (bs.map ed)) := ⟨_, rfl⟩
      rw [← hM] at HH hq2
      have HQ2 := Lib.hid hq2
      obtain ⟨A2, c2, rfl, -⟩ := hq2
      clear hfe hM
      go_wp2_with (first
        | (go_at_call 28; refine (holds_any n bs _ M _ _ (HL.out.stays bdAt_stays hbw) HQ2.out).mono ?_; rw [HH.out]; rintro e w3 ⟨rfl, hb3⟩)
        | (go_at_call 13; refine (awake_any _).mono ?_; rintro e w4 ⟨rfl, hb4⟩))
      go_ret
      exact ⟨rfl, bel_tr (bel_tr hbw hb3) hb4⟩
    · have HV' := Lib.hid (cyc_verified HZ.out hcy hsm)
      obtain ⟨⟨h, e5⟩, hh⟩ : ∃ r, holdsR n bs vs = r := ⟨_, rfl⟩
      have HH := Lib.hid hh
      have hno := infeas_holds HZ.out hfe vs
      rw [hh] at hno
      simp only at hno
      subst hno
      obtain ⟨CL, hCL⟩ : ∃ CL, CL = cycL (bs.map ed) (runs n.toNat (bs.map ed) (n.toNat + 1)).l (cycFrom n.toNat (bs.map ed)) L := ⟨_, rfl⟩
      rw [← hCL] at HV' hq2
      have HQ2 := Lib.hid hq2
      clear hfe hcy hsm hq2 hCL hh
      go_wp2_with (first
        | (go_at_call 28; refine (holds_any n bs _ vs _ _ (HL.out.stays bdAt_stays hbw) (HV.out.stays intAt_stays hbw)).mono ?_; rw [HH.out]; rintro e w3 ⟨rfl, hb3⟩; replace z0 := cell_stays hb3 z0; replace z1 := cell_stays hb3 z1; replace hbw := bel_tr hbw hb3; replace HQ2 := Lib.hid (HQ2.out.stays intAt_stays hb3); clear hb3)
        | (go_at_call 34; refine (verify_any n bs _ CL _ _ (HL.out.stays bdAt_stays hbw) HQ2.out).mono ?_; rw [HV'.out]; rintro e w4 ⟨rfl, hb4⟩)
        | (go_at_call 13; refine (awake_any _).mono ?_; rintro e w5 ⟨rfl, hb5⟩))
      go_ret
      exact ⟨rfl, bel_tr (bel_tr hbw hb4) hb5⟩

set_option maxRecDepth 100000 in
theorem decides_lifted (os : Os) (started : os.Started) (H : Type) (enc : TypeId × Value → H) :
    ReturnsInHanded {} Try.checked os 9 .any (Rows.differenceDecidesSpec.pre6 enc Try.prog Try.f9 Rows.differenceDecidesRow.domain false) (Rows.differenceDecidesSpec.post enc Try.prog Try.f9 false true false false) := by
  refine returnsInHanded_of_change (C := Try.checked) own_none started (by kernel_rfl) Try.func9
    (ChangeSpec.witness6 (enc := enc) (C := Try.checked) false ⟨#[], #[.agg #[.int .i64 0, .slice none 0 0], .slice none 0 0], []⟩ 8 (by kernel_rfl) (by kernel_rfl) (by kernel_rfl) (by kernel_rfl)) ?_
  intro W base args ds gs before hval0 hW hcnd _
  have hval : ∀ (j : Nat) t v, Try.f9.params[j]? = some t → args[j]? = some v → Value.okWide Try.prog W .any base t v := hval0
  have hW' := hW
  obtain ⟨p, q, hA0, hV, rfl, hfz, hnd⟩ := hW
  have hA : DataW.TrodAll enc Try.prog W 0 (fun _ => true) true Try.f9.params.toList args.toList ds p := hA0
  rw [Try.params9] at hA hval
  obtain ⟨v0, vs0, d0, ds0, p0, q0, hargs, rfl, rfl, h0, r0⟩ := trodAll_cons hA
  obtain ⟨v1, vs1, d1, ds1, p1, q1, rfl, rfl, rfl, h1, r1⟩ := trodAll_cons r0
  obtain ⟨rfl, rfl, rfl⟩ := trodAll_nil r1
  obtain rfl : args = #[v0, v1] := by cases args; simp_all
  obtain ⟨rfl, rfl⟩ := trodVars_none hV
  have k0 := h0
  have lt0 : ∀ x ∈ p0, x.block < W.heap.size := by obtain ⟨m, hm⟩ := k0; exact DataW.trod_lt m _ _ _ hm
  obtain ⟨x0, l0, u0, rfl, w0⟩ := read_zone_by_value h0
  have k1 := h1
  have lt1 : ∀ x ∈ p1, x.block < W.heap.size := by obtain ⟨m, hm⟩ := k1; exact DataW.trod_lt m _ _ _ hm
  obtain ⟨s1, len1, cap1, rfl⟩ := okWide_slice Try.underlying27 (hval 1 27 v1 rfl rfl)
  obtain ⟨l1, w1⟩ : ∃ l, IsInts W (.slice s1 len1 cap1) l := by obtain ⟨fuel, hf⟩ := h1; exact read_ints (v := .slice s1 len1 cap1) hf
  clear hA0 hval0
  refine (decides_walk x0 l0 u0 l1 _ W w0 w1).mono fun e W' ⟨he, bel⟩ => ?_
  subst he
  exact ⟨_, rfl, _, _, _, [], _, [], hW', trodAll_mk1 (shut_bool Try.underlying4 _), (trodAll_cons_mk (Below.trod laid_out (by kernel_rfl) (of_decide_eq_true (by kernel_rfl)) k0 bel lt0) (trodAll_cons_mk (Below.trod laid_out (by kernel_rfl) (of_decide_eq_true (by kernel_rfl)) k1 bel lt1) trodAll_mk0)), rfl, bel.frame _, fun h => by cases h⟩

theorem decides_over : Rows.differenceDecidesRow.holds Try.pinned (OpenSpec.ofChange Rows.differenceDecidesSpec) :=
  OpenClaim.holds_of_wide 9 Try.f9 rfl rfl rfl rfl rfl rfl rfl ⟨rfl, rfl, rfl, rfl, rfl⟩ rfl rfl rfl rfl rfl (by kernel_rfl) Try.func9 (by kernel_rfl)
    (of_decide_eq_true (by kernel_rfl)) (by unfold Func.isWrapper; first | (rw [if_pos (by decide +kernel)]; kernel_rfl) | (rw [if_neg (by decide +kernel)]; exact ⟨rfl, rfl⟩))
    (fun os started H enc _ => decides_lifted os started H enc)

theorem decides_holds : Rows.DifferenceDecidesSaid := decides_over
#print axioms decides_holds
end Go.Proofs.Ytgecbjjcjemcgaa
