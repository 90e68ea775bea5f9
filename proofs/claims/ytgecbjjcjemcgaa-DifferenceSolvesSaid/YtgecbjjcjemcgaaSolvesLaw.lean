/- The law DifferenceSolves: Solve answers as the reference does. -/
import Derived.Test.YtgecbjjcjemcgaaRows
import Derived.Test.YtgecbjjcjemcgaaDopen
import Derived.Test.YtgecbjjcjemcgaaDawake
import Derived.Test.YtgecbjjcjemcgaaDcyc
import Derived.ProofKit
import Derived.OpenShut
import Derived.ChangeOld
import Derived.Below
namespace Go.Proofs.Ytgecbjjcjemcgaa
open Go.ChangeShapes Go.WideShapes Go.ChangeAt Go.RowKit

set_option maxRecDepth 100000 in
set_option maxHeartbeats 1000000 in
theorem solves_walk (n : Int) (bs : List Bd) (v : Value) (w : World) (hl : IsBds w v bs) :
    Calls Try.prog 3 #[zoneV n v] w fun e w' => e = .returned (.bool true) ∧ Below w.heap.size w w' := by
  unfold zoneV
  have HL := Lib.hid hl
  obtain ⟨A, c, rfl, -⟩ := hl
  obtain ⟨f1, hf1⟩ : ∃ f1, (decide (n ≤ 6) && decide ((bs.length : Int) ≤ 12)) = f1 := ⟨_, rfl⟩
  have HF1 := Lib.hid hf1
  cases f1 with
  | false =>
    clear hf1
    go_enter Try.func3, Try.ntmps3
    go_wp2_with (first
      | (go_at_call 12; refine (few_any n _ _ _ _).mono ?_; rw [HF1.out]; rintro e w1 ⟨rfl, hb1⟩)
      | (go_at_call 13; refine (awake_any _).mono ?_; rintro e w2 ⟨rfl, hb2⟩))
    go_ret
    exact ⟨rfl, bel_tr (bel_tr (bel_one _ _) hb1) hb2⟩
  | true =>
    have hn6 : n ≤ 6 := by simp at hf1; exact hf1.1
    clear hf1
    go_enter Try.func3, Try.ntmps3
    go_wp2_with (go_at_call 12; refine (few_any n _ _ _ _).mono ?_; rw [HF1.out]; rintro e w1 ⟨rfl, hb1⟩; obtain ⟨hz, -⟩ := new_cells hb1; have hbw1 := bel_tr (bel_one _ _) hb1; have hsz : w.heap.size < w1.heap.size := by (have := hb1.size; simp at this; omega))
    refine (zsolve_any n hn6 bs _ _ (HL.out.stays bdAt_stays hbw1)).mono ?_
    rintro e w2 ⟨hb2, h2⟩
    have hz2 := arr_keep hz hsz hb2
    have hsz2 : w.heap.size < w2.heap.size := by have := hb2.size; omega
    have hbw2 := bel_tr hbw1 hb2
    clear hz hb1 hbw1 hsz hb2
    rcases h2 with ⟨h2, rfl⟩ | ⟨hz0, hfe, v2, rfl, hq2⟩ | ⟨hz0, hfe, L, A2, c2, rfl, hcy, hsm, hq2⟩
    · have HR : Hid (rsolveR n bs = (false, [], zoneErr n bs)) := Lib.hid (by unfold rsolveR; rw [if_neg h2])
      obtain ⟨e0, he0⟩ : ∃ e, zoneErr n bs = e := ⟨_, rfl⟩
      rw [he0] at h2
      have g0 : (e0 != 0) = true := by simpa using h2
      have HE0 := Lib.hid he0
      clear he0 h2
      rw [HE0.out]
      go_wp2_with fail
      refine (rzsolve_any n hn6 bs _ _ (HL.out.stays bdAt_stays hbw2)).mono ?_
      rw [HR.out, HE0.out]
      rintro e w3 ⟨v3, rfl, hq3, hb3⟩
      have HQ3 := Lib.hid hq3
      obtain ⟨A3, c3, rfl, -⟩ := hq3
      have HB3 := Lib.hid (bel_tr hbw2 hb3)
      clear hz2 hsz2 hbw2 hb3
      simp only
      go_wp2_with (first
        | (go_at_call 16; refine (sameInts_eq [] _ _ _ (Sl.nil _ _ _ _ _ (Nat.zero_le _)) HQ3.out).mono ?_; rintro e w4 ⟨rfl, hb4⟩)
        | (go_at_call 13; refine (awake_any _).mono ?_; rintro e w5 ⟨rfl, hb5⟩))
      go_ret
      exact ⟨rfl, bel_tr (bel_tr HB3.out hb4) hb5⟩
    · have HR : Hid (rsolveR n bs = (true, modelOf (sums n.toNat (bs.map ed)), 0)) := Lib.hid (by unfold rsolveR; rw [if_pos hz0, if_pos hfe])
      have HQ2 := Lib.hid hq2
      obtain ⟨A2, c2, rfl, -⟩ := hq2
      clear hz0 hfe
      go_wp2_with fail
      refine (rzsolve_any n hn6 bs _ _ (HL.out.stays bdAt_stays hbw2)).mono ?_
      rw [HR.out]
      rintro e w3 ⟨v3, rfl, hq3, hb3⟩
      have HQ3 := Lib.hid hq3
      have HQ23 := Lib.hid (HQ2.out.stays intAt_stays hb3)
      obtain ⟨A3, c3, rfl, -⟩ := hq3
      have HB3 := Lib.hid (bel_tr hbw2 hb3)
      clear hz2 hsz2 hbw2 hb3
      simp only
      go_wp2_with (first
        | (go_at_call 16; refine (sameInts_eq _ _ _ _ HQ23.out HQ3.out).mono ?_; rintro e w4 ⟨rfl, hb4⟩)
        | (go_at_call 13; refine (awake_any _).mono ?_; rintro e w5 ⟨rfl, hb5⟩))
      go_ret
      exact ⟨rfl, bel_tr (bel_tr HB3.out hb4) hb5⟩
    · have HR : Hid (rsolveR n bs = (false, [], 0)) := Lib.hid (by unfold rsolveR; rw [if_pos hz0, if_neg (by simp [hfe])])
      have HQ2 := Lib.hid hq2
      have HV := Lib.hid (cyc_verified hz0 hcy hsm)
      have hLn : (L : Int) ≤ n := by have h1 := hcy.le; have h2 := (good_of hz0).1; omega
      obtain ⟨CL, hCL⟩ : ∃ CL, CL = cycL (bs.map ed) (runs n.toNat (bs.map ed) (n.toNat + 1)).l (cycFrom n.toNat (bs.map ed)) L := ⟨_, rfl⟩
      rw [← hCL] at HQ2 HV
      clear hz0 hfe hcy hsm hq2 hCL
      go_wp2_with fail
      refine (rzsolve_any n hn6 bs _ _ (HL.out.stays bdAt_stays hbw2)).mono ?_
      rw [HR.out]
      rintro e w3 ⟨v3, rfl, hq3, hb3⟩
      have HQ3 := Lib.hid hq3
      have HQ23 := Lib.hid (HQ2.out.stays intAt_stays hb3)
      obtain ⟨A3, c3, rfl, -⟩ := hq3
      have HB3 := Lib.hid (bel_tr hbw2 hb3)
      have hz3 := arr_keep hz2 hsz2 hb3
      have hsz3 : w.heap.size < w3.heap.size := by have := hb3.size; omega
      clear hz2 hsz2 hbw2 hb3
      simp only
      go_wp2_with (first
        | (go_at_call 16; refine (sameInts_eq [] _ _ _ (Sl.nil _ _ _ _ _ (Nat.zero_le _)) HQ3.out).mono ?_; rintro e w4 ⟨rfl, hb4⟩; have hz4 := arr_keep hz3 hsz3 hb4; have z0 : w4.cell? ⟨w.heap.size, 0, none⟩ = some (.int .i64 n) := hz4 0; have z1 : w4.cell? ⟨w.heap.size, 1, none⟩ = some (.slice A bs.length c) := hz4 1; have HB4 := Lib.hid (bel_tr HB3.out hb4); have HQ4 := Lib.hid (HQ23.out.stays intAt_stays hb4); clear hz3 hb4)
        | (go_at_call 17; refine (rverify_any n bs _ CL _ _ (HL.out.stays bdAt_stays HB4.out) HQ4.out).mono ?_; rw [HV.out]; rintro e w5 ⟨rfl, hb5⟩)
        | (go_at_call 13; refine (awake_any _).mono ?_; rintro e w6 ⟨rfl, hb6⟩))
      go_ret
      exact ⟨rfl, bel_tr (bel_tr HB4.out hb5) hb6⟩

set_option maxRecDepth 100000 in
theorem solves_lifted (os : Os) (started : os.Started) (H : Type) (enc : TypeId × Value → H) :
    ReturnsInHanded {} Try.checked os 3 .any (Rows.differenceSolvesSpec.pre6 enc Try.prog Try.f3 Rows.differenceSolvesRow.domain false) (Rows.differenceSolvesSpec.post enc Try.prog Try.f3 false true false false) := by
  refine returnsInHanded_of_change (C := Try.checked) own_none started (by kernel_rfl) Try.func3
    (ChangeSpec.witness6 (enc := enc) (C := Try.checked) false ⟨#[], #[.agg #[.int .i64 0, .slice none 0 0]], []⟩ 8 (by kernel_rfl) (by kernel_rfl) (by kernel_rfl) (by kernel_rfl)) ?_
  intro W base args ds gs before hval0 hW hcnd _
  have hval : ∀ (j : Nat) t v, Try.f3.params[j]? = some t → args[j]? = some v → Value.okWide Try.prog W .any base t v := hval0
  have hW' := hW
  obtain ⟨p, q, hA0, hV, rfl, hfz, hnd⟩ := hW
  have hA : DataW.TrodAll enc Try.prog W 0 (fun _ => true) true Try.f3.params.toList args.toList ds p := hA0
  rw [Try.params3] at hA hval
  obtain ⟨v0, vs0, d0, ds0, p0, q0, hargs, rfl, rfl, h0, r0⟩ := trodAll_cons hA
  obtain ⟨rfl, rfl, rfl⟩ := trodAll_nil r0
  obtain rfl : args = #[v0] := by cases args; simp_all
  obtain ⟨rfl, rfl⟩ := trodVars_none hV
  have k0 := h0
  have lt0 : ∀ x ∈ p0, x.block < W.heap.size := by obtain ⟨m, hm⟩ := k0; exact DataW.trod_lt m _ _ _ hm
  obtain ⟨x0, l0, u0, rfl, w0⟩ := read_zone_by_value h0
  clear hA0 hval0
  refine (solves_walk x0 l0 u0 W w0).mono fun e W' ⟨he, bel⟩ => ?_
  subst he
  exact ⟨_, rfl, _, _, _, [], _, [], hW', trodAll_mk1 (shut_bool Try.underlying4 _), (trodAll_cons_mk (Below.trod laid_out (by kernel_rfl) (of_decide_eq_true (by kernel_rfl)) k0 bel lt0) trodAll_mk0), rfl, bel.frame _, fun h => by cases h⟩

theorem solves_over : Rows.differenceSolvesRow.holds Try.pinned (OpenSpec.ofChange Rows.differenceSolvesSpec) :=
  OpenClaim.holds_of_wide 3 Try.f3 rfl rfl rfl rfl rfl rfl rfl ⟨rfl, rfl, rfl, rfl, rfl⟩ rfl rfl rfl rfl rfl (by kernel_rfl) Try.func3 (by kernel_rfl)
    (of_decide_eq_true (by kernel_rfl)) (by unfold Func.isWrapper; first | (rw [if_pos (by decide +kernel)]; kernel_rfl) | (rw [if_neg (by decide +kernel)]; exact ⟨rfl, rfl⟩))
    (fun os started H enc _ => solves_lifted os started H enc)

theorem solves_holds : Rows.DifferenceSolvesSaid := solves_over
#print axioms solves_holds
end Go.Proofs.Ytgecbjjcjemcgaa

