/- The law ChannelBroadcasts: Broadcast and Check answer as the reference does. No condition. -/
import Derived.Test.YteonfoaemljndaaRows
import Derived.Test.YteonfoaemljndaaOpen
import Derived.Test.YteonfoaemljndaaFew
import Derived.Test.YteonfoaemljndaaSames
import Derived.Test.YteonfoaemljndaaRbcast
import Derived.Test.YteonfoaemljndaaRrecv
import Derived.Test.YteonfoaemljndaaReady
import Derived.ProofKit
import Derived.OpenShut
import Derived.ChangeOld
import Derived.Below
namespace Go.Proofs.Yteonfoaemljndaa
open Go.ChangeShapes Go.WideShapes Go.ChangeAt Go.RowKit

set_option maxRecDepth 100000 in
set_option maxHeartbeats 1000000 in
theorem broadcasts_walk (l : List Queue) (v : Value) (a : Int) (x : Item) (u : Value) (w : World) (hl : IsQueues w v l) (hu : IsVals w u x.values) :
    Calls Try.prog 4 #[v, .int .i64 a, itemV x u] w fun e w' => e = .returned (.bool true) ∧ Below w.heap.size w w' := by
  have HL := Lib.hid hl
  have HU := Lib.hid hu
  obtain ⟨A, c, rfl, -⟩ := hl
  obtain ⟨B, d, rfl, -⟩ := hu
  unfold itemV
  obtain ⟨f1, hf1⟩ : ∃ f1, fewB l = f1 := ⟨_, rfl⟩
  cases f1 with
  | false =>
    go_enter Try.func4, Try.ntmps4
    go_wp2_with (first
      | (go_at_call 11; refine (few_any l _ _ (HL.out.stays queueAt_stays (bel_one _ _))).mono ?_; rw [hf1]; rintro e w1 ⟨rfl, rfl⟩; clear hf1)
      | (go_at_call 13; refine (awake_any _).mono ?_; rintro e w2 ⟨rfl, hb2⟩))
    go_ret
    exact ⟨rfl, bel_tr (bel_one _ _) hb2⟩
  | true =>
    by_cases hv : 12 < (x.values.length : Int)
    · go_enter Try.func4, Try.ntmps4
      go_wp2_with (first
        | (go_at_call 11; refine (few_any l _ _ (HL.out.stays queueAt_stays (bel_one _ _))).mono ?_; rw [hf1]; rintro e w1 ⟨rfl, rfl⟩; clear hf1)
        | (go_at_call 13; refine (awake_any _).mono ?_; rintro e w2 ⟨rfl, hb2⟩))
      go_ret
      exact ⟨rfl, bel_tr (bel_one _ _) hb2⟩
    · obtain ⟨hsm, hit⟩ := few_bounds hf1
      have HIT : Hid (∀ q ∈ l, q.items.length ≤ 1048576) := Lib.hid (fun q hq => by have := (hit q hq).1; omega)
      clear hit
      obtain ⟨⟨rq, rc⟩, hr⟩ : ∃ r, bcastR l a x = r := ⟨_, rfl⟩
      obtain ⟨ce, hce⟩ : ∃ r, checkErr l = r := ⟨_, rfl⟩
      have HR := Lib.hid hr
      have HCE := Lib.hid hce
      clear hr hce
      go_enter Try.func4, Try.ntmps4
      go_wp2_with (go_at_call 11; refine (few_any l _ _ (HL.out.stays queueAt_stays (bel_one _ _))).mono ?_; rw [hf1]; rintro e w1 ⟨rfl, rfl⟩; clear hf1)
      refine (broadcast_any l _ a x _ _ (HL.out.stays queueAt_stays (bel_one _ _)) (HU.out.stays valAt_stays (bel_one _ _)) (by omega) HIT.out).mono ?_
      rw [HR.out]
      rintro e w2 ⟨v2, rfl, hq2, hb2⟩
      simp only at hq2
      obtain ⟨A2, c2, rfl, -⟩ := id hq2
      have HQ2 := Lib.hid hq2
      clear hq2
      obtain ⟨hz, -⟩ := new_cells hb2
      have hbw := bel_tr (bel_one _ _) hb2
      go_wp2_with fail
      refine (rbroadcast_any l _ a x _ _ (HL.out.stays queueAt_stays hbw) (HU.out.stays valAt_stays hbw) (by omega) HIT.out).mono ?_
      rw [HR.out]
      rintro e w3 ⟨v3, rfl, hq3, hb3⟩
      simp only at hq3
      obtain ⟨A3, c3, rfl, -⟩ := id hq3
      have HQ3 := Lib.hid hq3
      clear hq3 hz
      go_wp2_with fail
      refine (awake_any _).mono ?_
      rintro e w4 ⟨rfl, hb4⟩
      go_wp2_with fail
      refine (same_eq rq _ _ w4 (HQ2.out.stays queueAt_stays (bel_tr hb3 hb4)) (HQ3.out.stays queueAt_stays hb4)).mono ?_
      rintro e w5 ⟨rfl, hb5⟩
      have hbw5 := bel_tr (bel_tr (bel_tr hbw hb3) hb4) hb5
      go_wp2_with (first
        | (go_at_call 19; refine (check_any l _ _ (HL.out.stays queueAt_stays hbw5)).mono ?_; rw [HCE.out]; rintro e w6 ⟨rfl, hb6⟩)
        | (go_at_call 20; refine (rcheck_any l _ _ (HL.out.stays queueAt_stays (bel_tr hbw5 hb6))).mono ?_; rw [HCE.out]; rintro e w7 ⟨rfl, hb7⟩))
      go_ret
      exact ⟨by simp, bel_tr (bel_tr hbw5 hb6) hb7⟩

set_option maxRecDepth 100000 in
theorem broadcasts_lifted (os : Os) (started : os.Started) (H : Type) (enc : TypeId × Value → H) :
    ReturnsInHanded {} Try.checked os 4 .any (Rows.channelBroadcastsSpec.pre6 enc Try.prog Try.f4 Rows.channelBroadcastsRow.domain false) (Rows.channelBroadcastsSpec.post enc Try.prog Try.f4 false true false false) := by
  refine returnsInHanded_of_change (C := Try.checked) own_none started (by kernel_rfl) Try.func4
    (ChangeSpec.witness6 (enc := enc) (C := Try.checked) false ⟨#[], #[.slice none 0 0, .int .i64 0, .agg #[.int .i64 0, .int .i64 0, .int .i64 0, .int .i64 0, .int .i64 0, .slice none 0 0, .int .i64 0]], []⟩ 8 (by kernel_rfl) (by kernel_rfl) (by kernel_rfl) (by kernel_rfl)) ?_
  intro W base args ds gs before hval0 hW hcnd _
  have hval : ∀ (j : Nat) t v, Try.f4.params[j]? = some t → args[j]? = some v → Value.okWide Try.prog W .any base t v := hval0
  have hW' := hW
  obtain ⟨p, q, hA0, hV, rfl, hfz, hnd⟩ := hW
  have hA : DataW.TrodAll enc Try.prog W 0 (fun _ => true) true Try.f4.params.toList args.toList ds p := hA0
  rw [Try.params4] at hA hval
  obtain ⟨v0, vs0, d0, ds0, p0, q0, hargs, rfl, rfl, h0, r0⟩ := trodAll_cons hA
  obtain ⟨v1, vs1, d1, ds1, p1, q1, rfl, rfl, rfl, h1, r1⟩ := trodAll_cons r0
  obtain ⟨v2, vs2, d2, ds2, p2, q2, rfl, rfl, rfl, h2, r2⟩ := trodAll_cons r1
  obtain ⟨rfl, rfl, rfl⟩ := trodAll_nil r2
  obtain rfl : args = #[v0, v1, v2] := by cases args; simp_all
  obtain ⟨rfl, rfl⟩ := trodVars_none hV
  have k0 := h0
  have lt0 : ∀ x ∈ p0, x.block < W.heap.size := by obtain ⟨m, hm⟩ := k0; exact DataW.trod_lt m _ _ _ hm
  obtain ⟨s0, len0, cap0, rfl⟩ := okWide_slice Try.underlying22 (hval 0 22 v0 rfl rfl)
  obtain ⟨l0, w0⟩ : ∃ l, IsQueues W (.slice s0 len0 cap0) l := by obtain ⟨fuel, hf⟩ := h0; exact read_queues (v := .slice s0 len0 cap0) hf
  have k1 := h1
  have lt1 : ∀ x ∈ p1, x.block < W.heap.size := by obtain ⟨m, hm⟩ := k1; exact DataW.trod_lt m _ _ _ hm
  obtain ⟨a1, e1⟩ : ∃ a, v1 = .int .i64 a := by obtain ⟨a, e, _⟩ := open_int Try.underlying3 (hval 1 3 v1 rfl rfl) h1; exact ⟨a, e⟩
  subst e1
  have k2 := h2
  have lt2 : ∀ x ∈ p2, x.block < W.heap.size := by obtain ⟨m, hm⟩ := k2; exact DataW.trod_lt m _ _ _ hm
  obtain ⟨x2, u2, rfl, w2⟩ := read_item_by_value h2
  clear hA0 hval0
  refine (broadcasts_walk l0 _ a1 x2 u2 W w0 w2).mono fun e W' ⟨he, bel⟩ => ?_
  subst he
  exact ⟨_, rfl, _, _, _, [], _, [], hW', trodAll_mk1 (shut_bool Try.underlying4 _), (trodAll_cons_mk (Below.trod laid_out (by kernel_rfl) (of_decide_eq_true (by kernel_rfl)) k0 bel lt0) (trodAll_cons_mk (Below.trod laid_out (by kernel_rfl) (of_decide_eq_true (by kernel_rfl)) k1 bel lt1) (trodAll_cons_mk (Below.trod laid_out (by kernel_rfl) (of_decide_eq_true (by kernel_rfl)) k2 bel lt2) trodAll_mk0))), rfl, bel.frame _, fun h => by cases h⟩

theorem broadcasts_over : Rows.channelBroadcastsRow.holds Try.pinned (OpenSpec.ofChange Rows.channelBroadcastsSpec) :=
  OpenClaim.holds_of_wide 4 Try.f4 rfl rfl rfl rfl rfl rfl rfl ⟨rfl, rfl, rfl, rfl, rfl⟩ rfl rfl rfl rfl rfl (by kernel_rfl) Try.func4 (by kernel_rfl)
    (of_decide_eq_true (by kernel_rfl)) (by unfold Func.isWrapper; first | (rw [if_pos (by decide +kernel)]; kernel_rfl) | (rw [if_neg (by decide +kernel)]; exact ⟨rfl, rfl⟩))
    (fun os started H enc _ => broadcasts_lifted os started H enc)

theorem broadcasts_holds : Rows.ChannelBroadcastsSaid := broadcasts_over
#print axioms broadcasts_holds
end Go.Proofs.Yteonfoaemljndaa
