/- The law ChannelLooks: Before and Ready answer as the reference does. -/
import Derived.Test.YteonfoaemljndaaRows
import Derived.Test.YteonfoaemljndaaOpen
import Derived.Test.YteonfoaemljndaaFew
import Derived.Test.YteonfoaemljndaaSames
import Derived.Test.YteonfoaemljndaaRbefore
import Derived.Test.YteonfoaemljndaaReady
import Derived.ProofKit
import Derived.OpenShut
import Derived.ChangeOld
import Derived.Below
namespace Go.Proofs.Yteonfoaemljndaa
open Go.ChangeShapes Go.WideShapes Go.ChangeAt Go.RowKit

set_option maxRecDepth 100000 in
set_option maxHeartbeats 1000000 in
theorem looks_walk (l : List Queue) (v : Value) (a b : Int) (w : World) (hl : IsQueues w v l) :
    Calls Try.prog 7 #[v, .int .i64 a, .int .i64 b] w fun e w' => e = .returned (.bool true) ∧ Below w.heap.size w w' := by
  have HL := Lib.hid hl
  obtain ⟨A, c, rfl, -⟩ := hl
  obtain ⟨f1, hf1⟩ : ∃ f1, fewB l = f1 := ⟨_, rfl⟩
  cases f1 with
  | false =>
    go_enter Try.func7, Try.ntmps7
    go_wp2_with (first
      | (go_at_call 11; refine (few_any l _ _ HL.out).mono ?_; rw [hf1]; rintro e w1 ⟨rfl, rfl⟩; clear hf1)
      | (go_at_call 13; refine (awake_any _).mono ?_; rintro e w2 ⟨rfl, hb2⟩))
    go_ret
    exact ⟨rfl, hb2⟩
  | true =>
    obtain ⟨hsm, hit⟩ := few_bounds hf1
    have HIT : Hid (∀ q ∈ l, q.items.length ≤ 1048576) := Lib.hid (fun q hq => by have := (hit q hq).1; omega)
    clear hit
    obtain ⟨⟨ri, rn, rc⟩, hr⟩ : ∃ r, beforeR l a b = r := ⟨_, rfl⟩
    obtain ⟨⟨pl, pc⟩, hp⟩ : ∃ r, readyR l b = r := ⟨_, rfl⟩
    have HR := Lib.hid hr
    have HP := Lib.hid hp
    clear hr hp
    go_enter Try.func7, Try.ntmps7
    go_wp2_with (go_at_call 11; refine (few_any l _ _ HL.out).mono ?_; rw [hf1]; rintro e w1 ⟨rfl, rfl⟩; clear hf1)
    refine (before_any l _ a b _ HL.out (by omega) HIT.out).mono ?_
    rw [HR.out]
    rintro e w2 ⟨v2, rfl, hq2, hb2⟩
    simp only at hq2
    obtain ⟨A2, c2, rfl, -⟩ := id hq2
    have HQ2 := Lib.hid hq2
    clear hq2
    go_wp2_with fail
    refine (rbefore_any l _ a b _ (HL.out.stays queueAt_stays hb2)).mono ?_
    rw [HR.out]
    rintro e w3 ⟨v3, rfl, hq3, hb3⟩
    simp only at hq3
    obtain ⟨A3, c3, rfl, -⟩ := id hq3
    have HQ3 := Lib.hid hq3
    clear hq3
    go_wp2_with fail
    refine (ready_any l _ b _ (HL.out.stays queueAt_stays (bel_tr hb2 hb3)) (by omega)).mono ?_
    rw [HP.out]
    rintro e w4 ⟨v4, rfl, hq4, hb4⟩
    simp only at hq4
    have HQ4 := Lib.hid hq4
    obtain ⟨A4, c4, rfl, hn4, hn4', -⟩ := hq4
    go_wp2_with fail
    refine (rready_any l _ b _ (HL.out.stays queueAt_stays (bel_tr (bel_tr hb2 hb3) hb4)) (by omega)).mono ?_
    rw [HP.out]
    rintro e w5 ⟨v5, rfl, hq5, hb5⟩
    simp only at hq5
    have HQ5 := Lib.hid hq5
    obtain ⟨A5, c5, rfl, -⟩ := hq5
    have hn := len_i64 hn4 hn4'
    clear hn4 hn4'
    have HB := Lib.hid (bel_tr (bel_tr (bel_tr hb2 hb3) hb4) hb5)
    have HQ2' := Lib.hid (HQ2.out.stays itemAt_stays (bel_tr (bel_tr hb3 hb4) hb5))
    have HQ3' := Lib.hid (HQ3.out.stays itemAt_stays (bel_tr hb4 hb5))
    have HQ4' := Lib.hid (HQ4.out.stays intAt_stays hb5)
    clear HQ2 HQ3 HQ4 hb2 hb3 hb4 hb5
    go_wp2_with fail
    go_loopw [17] (fun i wr => ∃ k : Nat, k ≤ pl.length ∧ i = .int .i64 k ∧ Below w5.heap.size w5 wr) (fun i _ => pl.length - (intOf i).toNat)
    case atStart => exact ⟨0, Nat.zero_le _, rfl, Below.refl _ _⟩
    case round =>
      obtain ⟨k, hk, rfl, hb⟩ := hrel
      by_cases hlt : k < pl.length
      · obtain ⟨_, _, hv4, -, -, hat4⟩ := HQ4'.out
        obtain ⟨_, _, hv5, -, -, hat5⟩ := HQ5.out
        injection hv4 with e1 _ e3
        subst e1 e3
        injection hv5 with e1 _ e3
        subst e1 e3
        obtain ⟨b4, o4, rfl, p4⟩ := hat4 k pl[k] (List.getElem?_eq_getElem hlt)
        obtain ⟨b5, o5, rfl, p5⟩ := hat5 k pl[k] (List.getElem?_eq_getElem hlt)
        replace p4 := cell_stays hb p4
        replace p5 := cell_stays hb p5
        simp only [Nat.mul_one] at p4 p5
        clear hat4 hat5
        obtain ⟨z, hz⟩ : ∃ z, z = pl[k] := ⟨_, rfl⟩
        rw [← hz] at p4 p5
        clear hz
        have hk' : (k : Int) < (pl.length : Int) := by omega
        go_wp2
        refine wp_region_F (fun W => W.cell? ⟨b4, o4 + k, none⟩ = some (.int .i64 z) ∧ W.cell? ⟨b5, o5 + k, none⟩ = some (.int .i64 z)) (by repeat (first | exact grows_cell _ _ _ | exact grows_true | refine grows_and ?_ ?_)) (by kernel_rfl) (by kernel_rfl) ?hF ?_; (case hF => (first | exact ⟨‹_›, ‹_›⟩ | (go_simp; done) | (simp [*]; done))); intro hne hxx; have hG : Hid (Grows (fun W => W.cell? ⟨b4, o4 + k, none⟩ = some (.int .i64 z) ∧ W.cell? ⟨b5, o5 + k, none⟩ = some (.int .i64 z))) := (by repeat (first | exact grows_cell _ _ _ | exact grows_true | refine grows_and ?_ ?_)); (repeat (go_big_quiet_step (fail))); clear hG hxx hne; refine wpQuiet_nil ?_; rintro _ ⟨⟨w', hb', hF'⟩, rfl⟩
        clear hF'
        go_wp2
        go_roundw
        case rel => exact ⟨k + 1, by omega, by go_num, bel_tr hb hb'⟩
        case measure => simp [intOf]; omega
      · go_wp2_with fail
        refine (awake_any _).mono ?_
        rintro e w6 ⟨rfl, hb6⟩
        go_wp2_with fail
        refine (sameItems_eq ri _ _ w6 (HQ2'.out.stays itemAt_stays (bel_tr hb hb6)) (HQ3'.out.stays itemAt_stays (bel_tr hb hb6))).mono ?_
        rintro e w7 ⟨rfl, hb7⟩
        go_wp2_with fail
        go_ret
        exact ⟨by simp, bel_tr (bel_tr (bel_tr HB.out hb) hb6) hb7⟩

set_option maxRecDepth 100000 in
theorem looks_lifted (os : Os) (started : os.Started) (H : Type) (enc : TypeId × Value → H) :
    ReturnsInHanded {} Try.checked os 7 .any (Rows.channelLooksSpec.pre6 enc Try.prog Try.f7 Rows.channelLooksRow.domain false) (Rows.channelLooksSpec.post enc Try.prog Try.f7 false true false false) := by
  refine returnsInHanded_of_change (C := Try.checked) own_none started (by kernel_rfl) Try.func7
    (ChangeSpec.witness6 (enc := enc) (C := Try.checked) false ⟨#[], #[.slice none 0 0, .int .i64 0, .int .i64 0], []⟩ 8 (by kernel_rfl) (by kernel_rfl) (by kernel_rfl) (by kernel_rfl)) ?_
  intro W base args ds gs before hval0 hW hcnd _
  have hval : ∀ (j : Nat) t v, Try.f7.params[j]? = some t → args[j]? = some v → Value.okWide Try.prog W .any base t v := hval0
  have hW' := hW
  obtain ⟨p, q, hA0, hV, rfl, hfz, hnd⟩ := hW
  have hA : DataW.TrodAll enc Try.prog W 0 (fun _ => true) true Try.f7.params.toList args.toList ds p := hA0
  rw [Try.params7] at hA hval
  obtain ⟨v0, vs0, d0, ds0, p0, q0, hargs, rfl, rfl, h0, r0⟩ := trodAll_cons hA
  obtain ⟨v1, vs1, d1, ds1, p1, q1, rfl, rfl, rfl, h1, r1⟩ := trodAll_cons r0
  obtain ⟨v2, vs2, d2, ds2, p2, q2, rfl, rfl, rfl, h2, r2⟩ := trodAll_cons r1
  obtain ⟨rfl, rfl, rfl⟩ := trodAll_nil r2
  obtain rfl : args = #[v0, v1, v2] := by cases args; simp_all
  obtain ⟨rfl, rfl⟩ := trodVars_none hV
  have k0 := h0
  have lt0 : ∀ x ∈ p0, x.block < W.heap.size := by obtain ⟨m, hm⟩ := k0; exact DataW.trod_lt m _ _ _ hm
  obtain ⟨s0, len0, cap0, rfl⟩ := okWide_slice Try.underlying22 (hval 0 22 v0 rfl rfl)
  obtain ⟨l0, w0⟩ : ∃ l, IsQueues W (.slice s0 len0 cap0) l := by obtain ⟨fuel, hf⟩ := h0; exact read_queues (v := .slice s0 len0 cap0) hf
  have k1 := h1
  have lt1 : ∀ x ∈ p1, x.block < W.heap.size := by obtain ⟨m, hm⟩ := k1; exact DataW.trod_lt m _ _ _ hm
  obtain ⟨a1, e1⟩ : ∃ a, v1 = .int .i64 a := by obtain ⟨a, e, _⟩ := open_int Try.underlying3 (hval 1 3 v1 rfl rfl) h1; exact ⟨a, e⟩
  subst e1
  have k2 := h2
  have lt2 : ∀ x ∈ p2, x.block < W.heap.size := by obtain ⟨m, hm⟩ := k2; exact DataW.trod_lt m _ _ _ hm
  obtain ⟨a2, e2⟩ : ∃ a, v2 = .int .i64 a := by obtain ⟨a, e, _⟩ := open_int Try.underlying3 (hval 2 3 v2 rfl rfl) h2; exact ⟨a, e⟩
  subst e2
  clear hA0 hval0
  refine (looks_walk l0 _ a1 a2 W w0).mono fun e W' ⟨he, bel⟩ => ?_
  subst he
  exact ⟨_, rfl, _, _, _, [], _, [], hW', trodAll_mk1 (shut_bool Try.underlying4 _), (trodAll_cons_mk (Below.trod laid_out (by kernel_rfl) (of_decide_eq_true (by kernel_rfl)) k0 bel lt0) (trodAll_cons_mk (Below.trod laid_out (by kernel_rfl) (of_decide_eq_true (by kernel_rfl)) k1 bel lt1) (trodAll_cons_mk (Below.trod laid_out (by kernel_rfl) (of_decide_eq_true (by kernel_rfl)) k2 bel lt2) trodAll_mk0))), rfl, bel.frame _, fun h => by cases h⟩

theorem looks_over : Rows.channelLooksRow.holds Try.pinned (OpenSpec.ofChange Rows.channelLooksSpec) :=
  OpenClaim.holds_of_wide 7 Try.f7 rfl rfl rfl rfl rfl rfl rfl ⟨rfl, rfl, rfl, rfl, rfl⟩ rfl rfl rfl rfl rfl (by kernel_rfl) Try.func7 (by kernel_rfl)
    (of_decide_eq_true (by kernel_rfl)) (by unfold Func.isWrapper; first | (rw [if_pos (by decide +kernel)]; kernel_rfl) | (rw [if_neg (by decide +kernel)]; exact ⟨rfl, rfl⟩))
    (fun os started H enc _ => looks_lifted os started H enc)

theorem looks_holds : Rows.ChannelLooksSaid := looks_over
#print axioms looks_holds
end Go.Proofs.Yteonfoaemljndaa
