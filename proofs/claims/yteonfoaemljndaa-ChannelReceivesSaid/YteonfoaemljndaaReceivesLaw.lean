/- The law ChannelReceives: Receive and Peek answer as the reference does. -/
import Derived.Test.YteonfoaemljndaaRows
import Derived.Test.YteonfoaemljndaaOpen
import Derived.Test.YteonfoaemljndaaFew
import Derived.Test.YteonfoaemljndaaSames
import Derived.Test.YteonfoaemljndaaRrecv
import Derived.Test.YteonfoaemljndaaReady
import Derived.ProofKit
import Derived.OpenShut
import Derived.ChangeOld
import Derived.Below
namespace Go.Proofs.Yteonfoaemljndaa
open Go.ChangeShapes Go.WideShapes Go.ChangeAt Go.RowKit

theorem arr_stays {W W' : World} {b : Nat} {arr : Array Value} (h : ∀ j, W.cell? ⟨b, j, none⟩ = arr[j]?) (hl : b < W.heap.size) (hb : Below W.heap.size W W') : ∀ j, W'.cell? ⟨b, j, none⟩ = arr[j]? :=
  fun j => (World.cell?_of_block (hb.block b hl)).trans (h j)

set_option maxRecDepth 100000 in
set_option maxHeartbeats 1000000 in
theorem receives_walk (l : List Queue) (v : Value) (a b : Int) (w : World) (hl : IsQueues w v l) :
    Calls Try.prog 6 #[v, .int .i64 a, .int .i64 b] w fun e w' => e = .returned (.bool true) ∧ Below w.heap.size w w' := by
  have HL := Lib.hid hl
  obtain ⟨A, c, rfl, -⟩ := hl
  obtain ⟨f1, hf1⟩ : ∃ f1, fewB l = f1 := ⟨_, rfl⟩
  cases f1 with
  | false =>
    go_enter Try.func6, Try.ntmps6
    go_wp2_with (first
      | (go_at_call 11; refine (few_any l _ _ HL.out).mono ?_; rw [hf1]; rintro e w1 ⟨rfl, rfl⟩; clear hf1)
      | (go_at_call 13; refine (awake_any _).mono ?_; rintro e w2 ⟨rfl, hb2⟩))
    go_ret
    exact ⟨rfl, hb2⟩
  | true =>
    obtain ⟨hsm, hit⟩ := few_bounds hf1
    have HIT : Hid (∀ q ∈ l, q.items.length ≤ 1048576) := Lib.hid (fun q hq => by have := (hit q hq).1; omega)
    clear hit
    go_enter Try.func6, Try.ntmps6
    go_wp2_with (go_at_call 11; refine (few_any l _ _ HL.out).mono ?_; rw [hf1]; rintro e w1 ⟨rfl, rfl⟩; clear hf1)
    obtain ⟨⟨rq, rx, rc⟩, hr⟩ : ∃ r, receiveR l a b = r := ⟨_, rfl⟩
    obtain ⟨⟨px, pb, pc⟩, hp⟩ : ∃ r, peekR l a b = r := ⟨_, rfl⟩
    have HR := Lib.hid hr
    have HP := Lib.hid hp
    clear hr hp
    refine (receive_any l _ a b _ HL.out (by omega) HIT.out).mono ?_
    rw [HR.out]
    rintro e w2 ⟨v2, u2, rfl, hq2, hu2, hb2⟩
    simp only at hq2 hu2
    obtain ⟨A2, c2, rfl, -⟩ := id hq2
    obtain ⟨B2, d2, rfl, -⟩ := id hu2
    have HQ2 := Lib.hid hq2
    have HU2 := Lib.hid hu2
    clear hq2 hu2
    unfold itemV
    go_wp2_with fail
    refine (rreceive_any l _ a b _ (HL.out.stays queueAt_stays (bel_tr hb2 (bel_one _ _))) (by omega) HIT.out).mono ?_
    rw [HR.out]
    rintro e w3 ⟨v3, u3, rfl, hq3, hu3, hb3⟩
    simp only at hq3 hu3
    obtain ⟨A3, c3, rfl, -⟩ := id hq3
    obtain ⟨B3, d3, rfl, -⟩ := id hu3
    have HQ3 := Lib.hid hq3
    have HU3 := Lib.hid hu3
    clear hq3 hu3
    have hx2 := (new_cells hb3).1
    have hb23 := bel_tr (bel_one _ _) hb3
    have HX2 := Lib.hid hx2
    have hl2 : w2.heap.size < w3.heap.size := by have := hb3.size; simp at this; omega
    clear hx2
    unfold itemV
    go_wp2_with fail
    refine (peek_any l _ a b _ (HL.out.stays queueAt_stays (bel_tr (bel_tr hb2 hb23) (bel_one _ _))) (by omega)).mono ?_
    rw [HP.out]
    rintro e w4 ⟨u4, rfl, hu4, hb4⟩
    simp only at hu4
    obtain ⟨B4, d4, rfl, -⟩ := id hu4
    have HU4 := Lib.hid hu4
    clear hu4
    have HX3 := Lib.hid (new_cells hb4).1
    have hb34 := bel_tr (bel_one _ _) hb4
    have hl3 : w3.heap.size < w4.heap.size := by have := hb4.size; simp at this; omega
    unfold itemV
    go_wp2_with fail
    refine (rpeek_any l _ a b _ (HL.out.stays queueAt_stays (bel_tr (bel_tr (bel_tr hb2 hb23) hb34) (bel_one _ _))) (by omega)).mono ?_
    rw [HP.out]
    rintro e w5 ⟨u5, rfl, hu5, hb5⟩
    simp only at hu5
    obtain ⟨B5, d5, rfl, -⟩ := id hu5
    have HU5 := Lib.hid hu5
    clear hu5
    have HX4 := Lib.hid (new_cells hb5).1
    have hb45 := bel_tr (bel_one _ _) hb5
    have hl4 : w4.heap.size < w5.heap.size := by have := hb5.size; simp at this; omega
    unfold itemV
    go_wp2_with fail
    refine (awake_any _).mono ?_
    rintro e w6 ⟨rfl, hb6⟩
    have HX5 := Lib.hid (new_cells hb6).1
    have hb56 := bel_tr (bel_one _ _) hb6
    have hl5 : w5.heap.size < w6.heap.size := by have := hb6.size; simp at this; omega
    go_wp2_with fail
    refine (same_eq rq _ _ w6 (HQ2.out.stays queueAt_stays (bel_tr (bel_tr (bel_tr hb23 hb34) hb45) hb56)) (HQ3.out.stays queueAt_stays (bel_tr (bel_tr hb34 hb45) hb56))).mono ?_
    rintro e w7 ⟨rfl, hb7⟩
    have y2 := arr_stays HX2.out hl2 (bel_tr (bel_tr (bel_tr hb34 hb45) hb56) hb7)
    have y3 := arr_stays HX3.out hl3 (bel_tr (bel_tr hb45 hb56) hb7)
    have hm2 := World.block_lt_of_cell? w7 _ (y2 0)
    have hm3 := World.block_lt_of_cell? w7 _ (y3 0)
    go_wp2_with fail
    refine (sameItem_eq rx _ _ w7 (HU2.out.stays valAt_stays (bel_tr (bel_tr (bel_tr (bel_tr hb23 hb34) hb45) hb56) hb7)) (HU3.out.stays valAt_stays (bel_tr (bel_tr (bel_tr hb34 hb45) hb56) hb7))).mono ?_
    rintro e w8 ⟨rfl, hb8⟩
    clear y2 y3
    have y4 := arr_stays HX4.out hl4 (bel_tr (bel_tr hb56 hb7) hb8)
    have y5 := arr_stays HX5.out hl5 (bel_tr hb7 hb8)
    have hm4 := World.block_lt_of_cell? w8 _ (y4 0)
    have hm5 := World.block_lt_of_cell? w8 _ (y5 0)
    go_wp2_with fail
    refine (sameItem_eq px _ _ w8 (HU4.out.stays valAt_stays (bel_tr (bel_tr (bel_tr hb45 hb56) hb7) hb8)) (HU5.out.stays valAt_stays (bel_tr (bel_tr hb56 hb7) hb8))).mono ?_
    rintro e w9 ⟨rfl, hb9⟩
    clear y4 y5
    go_wp2_with fail
    go_ret
    exact ⟨by simp, bel_tr (bel_tr (bel_tr (bel_tr (bel_tr (bel_tr (bel_tr hb2 hb23) hb34) hb45) hb56) hb7) hb8) hb9⟩

set_option maxRecDepth 100000 in
theorem receives_lifted (os : Os) (started : os.Started) (H : Type) (enc : TypeId × Value → H) :
    ReturnsInHanded {} Try.checked os 6 .any (Rows.channelReceivesSpec.pre6 enc Try.prog Try.f6 Rows.channelReceivesRow.domain false) (Rows.channelReceivesSpec.post enc Try.prog Try.f6 false true false false) := by
  refine returnsInHanded_of_change (C := Try.checked) own_none started (by kernel_rfl) Try.func6
    (ChangeSpec.witness6 (enc := enc) (C := Try.checked) false ⟨#[], #[.slice none 0 0, .int .i64 0, .int .i64 0], []⟩ 8 (by kernel_rfl) (by kernel_rfl) (by kernel_rfl) (by kernel_rfl)) ?_
  intro W base args ds gs before hval0 hW hcnd _
  have hval : ∀ (j : Nat) t v, Try.f6.params[j]? = some t → args[j]? = some v → Value.okWide Try.prog W .any base t v := hval0
  have hW' := hW
  obtain ⟨p, q, hA0, hV, rfl, hfz, hnd⟩ := hW
  have hA : DataW.TrodAll enc Try.prog W 0 (fun _ => true) true Try.f6.params.toList args.toList ds p := hA0
  rw [Try.params6] at hA hval
  obtain ⟨v0, vs0, d0, ds0, p0, q0, hargs, rfl, rfl, h0, r0⟩ := trodAll_cons hA
  obtain ⟨v1, vs1, d1, ds1, p1, q1, rfl, rfl, rfl, h1, r1⟩ := trodAll_cons r0
  obtain ⟨v2, vs2, d2, ds2, p2, q2, rfl, rfl, rfl, h2, r2⟩ := trodAll_cons r1
  obtain ⟨rfl, rfl, rfl⟩ := trodAll_nil r2
  obtain rfl : args = #[v0, v1, v2] := by cases args; simp_all
  obtain ⟨rfl, rfl⟩ := trodVars_none hV
  have k0 := h0
  have lt0 : ∀ x ∈ p0, x.block < W.heap.size := by obtain ⟨m, hm⟩ := k0; exact DataW.trod_lt m _ _ _ hm
  obtain ⟨s0, len0, cap0, rfl⟩ := okWide_slice Try.underlying22 (hval 0 22 v0 rfl rfl)
  obtain ⟨l0, w0⟩ : ∃ l, IsQueues W (.slice s0 len0 cap0) l := by obtain ⟨fuel, hf⟩ := h0; exact read_queues (v := .slice s0 len0 cap0) hf
  have k1 := h1
  have lt1 : ∀ x ∈ p1, x.block < W.heap.size := by obtain ⟨m, hm⟩ := k1; exact DataW.trod_lt m _ _ _ hm
  obtain ⟨a1, e1⟩ : ∃ a, v1 = .int .i64 a := by obtain ⟨a, e, _⟩ := open_int Try.underlying3 (hval 1 3 v1 rfl rfl) h1; exact ⟨a, e⟩
  subst e1
  have k2 := h2
  have lt2 : ∀ x ∈ p2, x.block < W.heap.size := by obtain ⟨m, hm⟩ := k2; exact DataW.trod_lt m _ _ _ hm
  obtain ⟨a2, e2⟩ : ∃ a, v2 = .int .i64 a := by obtain ⟨a, e, _⟩ := open_int Try.underlying3 (hval 2 3 v2 rfl rfl) h2; exact ⟨a, e⟩
  subst e2
  clear hA0 hval0
  refine (receives_walk l0 _ a1 a2 W w0).mono fun e W' ⟨he, bel⟩ => ?_
  subst he
  exact ⟨_, rfl, _, _, _, [], _, [], hW', trodAll_mk1 (shut_bool Try.underlying4 _), (trodAll_cons_mk (Below.trod laid_out (by kernel_rfl) (of_decide_eq_true (by kernel_rfl)) k0 bel lt0) (trodAll_cons_mk (Below.trod laid_out (by kernel_rfl) (of_decide_eq_true (by kernel_rfl)) k1 bel lt1) (trodAll_cons_mk (Below.trod laid_out (by kernel_rfl) (of_decide_eq_true (by kernel_rfl)) k2 bel lt2) trodAll_mk0))), rfl, bel.frame _, fun h => by cases h⟩

theorem receives_over : Rows.channelReceivesRow.holds Try.pinned (OpenSpec.ofChange Rows.channelReceivesSpec) :=
  OpenClaim.holds_of_wide 6 Try.f6 rfl rfl rfl rfl rfl rfl rfl ⟨rfl, rfl, rfl, rfl, rfl⟩ rfl rfl rfl rfl rfl (by kernel_rfl) Try.func6 (by kernel_rfl)
    (of_decide_eq_true (by kernel_rfl)) (by unfold Func.isWrapper; first | (rw [if_pos (by decide +kernel)]; kernel_rfl) | (rw [if_neg (by decide +kernel)]; exact ⟨rfl, rfl⟩))
    (fun os started H enc _ => receives_lifted os started H enc)

theorem receives_holds : Rows.ChannelReceivesSaid := receives_over
#print axioms receives_holds
end Go.Proofs.Yteonfoaemljndaa
