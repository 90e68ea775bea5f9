/- The law ChannelJoins: sending items at once is sending them one after another, and changes no other queue. No condition. -/
import Derived.Test.YteonfoaemljndaaRows
import Derived.Test.YteonfoaemljndaaOpen
import Derived.Test.YteonfoaemljndaaFew
import Derived.Test.YteonfoaemljndaaSames
import Derived.Test.YteonfoaemljndaaPlain
import Derived.Test.YteonfoaemljndaaSend
import Derived.Test.YteonfoaemljndaaAwake
import Derived.Test.YteonfoaemljndaaJoins1
import Derived.Deep.RegionHeld3
import Derived.ProofKit
import Derived.OpenShut
import Derived.ChangeOld
import Derived.Below
namespace Go.Proofs.Yteonfoaemljndaa
open Go.ChangeShapes Go.WideShapes Go.ChangeAt Go.RowKit

theorem same_others {l rq : List Queue} {a b : Int} {i k : Nat} {p pr : Queue} {xs : List Item} (hf : findQ l a b = some i) (hs : rq = setItems l i xs) (hp : l[k]? = some p) (hr : rq[k]? = some pr) (hn : ¬ (p.frm = a ∧ p.to = b)) : pr.items = p.items := by
  obtain ⟨q', hq', e1, e2⟩ := findQ_lt hf
  have hik : i ≠ k := fun e => by
    subst e
    rw [hp] at hq'
    injection hq' with hq'
    subst hq'
    exact hn ⟨e1, e2⟩
  rw [hs, setItems_ne hik, hp] at hr
  injection hr with hr
  rw [hr]

set_option maxRecDepth 100000 in
set_option maxHeartbeats 2000000 in
theorem joins_walk (l : List Queue) (v : Value) (a b : Int) (items : List Item) (vi : Value) (w : World) (hl : IsQueues w v l) (hi : IsItems w vi items) :
    Calls Try.prog 9 #[v, .agg #[.int .i64 a, .int .i64 b], vi] w fun e w' => e = .returned (.bool true) ∧ Below w.heap.size w w' := by
  have HL := Lib.hid hl
  have HI := Lib.hid hi
  obtain ⟨A, c, rfl, hlc, hcm, -⟩ := hl
  obtain ⟨Ai, ci, rfl, hic, hicm, -⟩ := hi
  obtain ⟨f1, hf1⟩ : ∃ f1, fewB l = f1 := ⟨_, rfl⟩
  obtain ⟨f2, hf2⟩ : ∃ f2, fewItemsB items = f2 := ⟨_, rfl⟩
  cases f1 with
  | false =>
    go_enter Try.func9, Try.ntmps9
    go_wp2_with (first
      | (go_at_call 11; refine (few_any l _ _ (HL.out.stays queueAt_stays (bel_one _ _))).mono ?_; rw [hf1]; rintro e w1 ⟨rfl, rfl⟩; clear hf1)
      | (go_at_call 13; refine (awake_any _).mono ?_; rintro e w2 ⟨rfl, hb2⟩))
    go_ret
    exact ⟨rfl, bel_tr (bel_one _ _) hb2⟩
  | true =>
    by_cases hv : 12 < (items.length : Int)
    · go_enter Try.func9, Try.ntmps9
      go_wp2_with (first
        | (go_at_call 11; refine (few_any l _ _ (HL.out.stays queueAt_stays (bel_one _ _))).mono ?_; rw [hf1]; rintro e w1 ⟨rfl, rfl⟩; clear hf1)
        | (go_at_call 13; refine (awake_any _).mono ?_; rintro e w2 ⟨rfl, hb2⟩))
      go_ret
      exact ⟨rfl, bel_tr (bel_one _ _) hb2⟩
    · cases f2 with
      | false =>
        go_enter Try.func9, Try.ntmps9
        go_wp2_with (first
          | (go_at_call 11; refine (few_any l _ _ (HL.out.stays queueAt_stays (bel_one _ _))).mono ?_; rw [hf1]; rintro e w1 ⟨rfl, rfl⟩; clear hf1)
          | (go_at_call 12; refine (fewItems_any items _ _ (HI.out.stays itemAt_stays (bel_one _ _))).mono ?_; rw [hf2]; rintro e w1 ⟨rfl, rfl⟩; clear hf2)
          | (go_at_call 13; refine (awake_any _).mono ?_; rintro e w2 ⟨rfl, hb2⟩))
        go_ret
        exact ⟨rfl, bel_tr (bel_one _ _) hb2⟩
      | true =>
        obtain ⟨hsm, hit⟩ := few_bounds hf1
        have hmm : items.length ≤ 12 := by omega
        have HIT : Hid (∀ q ∈ l, q.items.length ≤ 4105) := Lib.hid (fun q hq => (hit q hq).1)
        clear hit
        obtain ⟨⟨rq, rc⟩, hr⟩ : ∃ r, sendR l a b items = r := ⟨_, rfl⟩
        have HR := Lib.hid hr
        go_enter Try.func9, Try.ntmps9
        go_wp2_with (first
          | (go_at_call 11; refine (few_any l _ _ (HL.out.stays queueAt_stays (bel_one _ _))).mono ?_; rw [hf1]; rintro e w1 ⟨rfl, rfl⟩; clear hf1)
          | (go_at_call 12; refine (fewItems_any items _ _ (HI.out.stays itemAt_stays (bel_one _ _))).mono ?_; rw [hf2]; rintro e w1 ⟨rfl, rfl⟩; clear hf2))
        refine (send_any l _ a b items _ _ (HL.out.stays queueAt_stays (bel_one _ _)) (HI.out.stays itemAt_stays (bel_one _ _)) (by omega) (fun q hq => by have := HIT.out q hq; omega) (by omega)).mono ?_
        rw [HR.out]
        rintro e w2 ⟨v2, rfl, hq2, hb2⟩
        simp only at hq2
        obtain ⟨A2, c2, rfl, hc2, hcm2, -⟩ := id hq2
        have HQ2 := Lib.hid hq2
        clear hq2
        have hz := (new_cells hb2).1
        have hbw := bel_tr (bel_one _ _) hb2
        have HBW := Lib.hid hbw
        by_cases h0 : rc = 0
        · have g0 : (rc != 0) = false := by simpa using h0
          obtain ⟨i, q, hf, hc, hfq, hq, hm0, hn, hs⟩ := sendR_inv (by rw [hr]; exact h0 : (sendR l a b items).2 = 0)
          rw [hr] at hs
          injection hs with hs1 hs2
          have HF := Lib.hid hf
          have HC := Lib.hid hc
          have HFQ := Lib.hid hfq
          have HQ := Lib.hid hq
          have HM0 := Lib.hid hm0
          have HN := Lib.hid hn
          have HS := Lib.hid hs1
          have hrl : rq.length = l.length := by rw [hs1, setItems_length]
          replace HQ2 : Hid (IsQueues w2 (.slice A2 l.length c2) rq) := Lib.hid (by have h := HQ2.out; rw [hrl] at h; exact h)
          have HCK : Hid (checkErr rq = 0) := Lib.hid (by rw [hs1]; exact check_setItems hc hq (itemsErr_app0 ((checkErr_iff.1 hc).2 q (List.mem_of_getElem? hq)).2.2 hm0) (by rw [List.length_append]; omega))
          clear h0 hr hf hc hfq hq hm0 hn hs1 hs2 hbw hb2
          have y0 : w2.cell? ⟨w.heap.size, 0, none⟩ = some (.int .i64 a) := hz 0
          have y1 : w2.cell? ⟨w.heap.size, 1, none⟩ = some (.int .i64 b) := hz 1
          clear hz
          go_wp2_with fail
          go_loopw [9, 10] (fun v i' wr => ∃ (k : Nat), k ≤ items.length ∧ i' = .int .i64 k ∧ Hid (IsQueues wr v (setItems l i (q.items ++ items.take k)) ∧ Below w2.heap.size w2 wr)) (fun _ i' _ => items.length - (intOf i').toNat)
          case atStart => exact ⟨0, Nat.zero_le _, rfl, by rw [List.take_zero, List.append_nil, setItems_self HQ.out]; exact HL.out.stays queueAt_stays HBW.out, Below.refl _ _⟩
          case round =>
            obtain ⟨k, hk, rfl, hI⟩ := hrel
            by_cases hlt : k < items.length
            · have HG := Lib.hid (List.getElem?_eq_getElem hlt)
              obtain ⟨x, hx⟩ : ∃ x, x = items[k] := ⟨_, rfl⟩
              rw [← hx] at HG
              clear hx
              obtain ⟨_, _, hvi, -, -, hat⟩ := HI.out
              injection hvi with e1 _ e3
              subst e1 e3
              obtain ⟨bi, oi, rfl, -⟩ := hat k x HG.out
              clear hat
              have hk1 : (k : Int) < (items.length : Int) := by omega
              have hk2 : (k : Int) + 1 ≤ (items.length : Int) := by omega
              have hk3 : (k : Int) + 1 ≤ (ci : Int) := by omega
              have hk4 : k + 1 ≤ ci := by omega
              have hk5 : ¬ ci = k := by omega
              have hk6 : (0 : Int) ≤ (k : Int) := by omega
              have hk7 : (k : Int) ≤ (k : Int) + 1 := by omega
              have hwrap : IntKind.i64.wrap ((k : Int) + 1) = (k : Int) + 1 := IntWalk.i64_in _ (by omega)
              have x0 := cell_stays hI.out.2 y0
              have x1 := cell_stays hI.out.2 y1
              have HSM : Hid (∀ p ∈ setItems l i (q.items ++ items.take k), p.items.length ≤ 1048576) := Lib.hid (fun p hp => by
                rcases mem_setItems HQ.out hp with h | h
                · have := HIT.out p h; omega
                · subst h; have := HIT.out q (List.mem_of_getElem? HQ.out); simp only [withItems, List.length_append, List.length_take]; omega)
              have HST := Lib.hid (send_step HF.out HC.out HQ.out HM0.out HN.out HG.out)
              go_wp2_with fail
              go_region_held3 (fun W => W.cell? ⟨w.heap.size, 0, none⟩ = some (.int .i64 a) ∧ W.cell? ⟨w.heap.size, 1, none⟩ = some (.int .i64 b)) (with_reducible exact cells2_stay (p1 := (w.heap.size, 0)) (p2 := (w.heap.size, 1)) (by repeat (first | with_reducible exact Below.refl _ _ | assumption | with_reducible refine Below.drew ?_ | with_reducible refine bel_al ?_ _ | with_reducible refine bel_tr ?_ (by assumption))) ⟨x0, x1⟩) (first
                | (go_at_call 14; refine (send_any (setItems l i (q.items ++ items.take k)) _ a b [x] _ _ (hI.out.1.stays queueAt_stays (Below.refl _ _).drew) (one_at (HI.out.stays itemAt_stays (bel_tr HBW.out (bel_tr hI.out.2 (Below.refl _ _).drew))) HG.out) (by rw [setItems_length]; omega) HSM.out (by simp)).mono ?_; rw [HST.out]; rintro e w3 ⟨v3, rfl, hq3, hb3'⟩; simp only at hq3; have HQ3 := Lib.hid hq3; have hb3 : Below wr.heap.size wr w3 := bel_tr (Below.refl _ _).drew hb3'; clear hq3 hb3'))
              go_wp2_with fail
              go_roundw
              case rel => exact ⟨k + 1, by omega, by go_num, HQ3.out, bel_tr hI.out.2 hb3⟩
              case measure => simp [intOf]; omega
            · obtain rfl : k = items.length := by omega
              have hqe := hI.out.1
              rw [List.take_length, ← HS.out] at hqe
              obtain ⟨Ae, ce, rfl, -⟩ := id hqe
              have HQE : Hid (IsQueues wr (.slice Ae l.length ce) rq) := Lib.hid (by rw [hrl] at hqe; exact hqe)
              clear hqe
              have HBR := Lib.hid hI.out.2
              clear hI
              go_wp2_with fail
              refine (same_eq rq _ _ wr (HQ2.out.stays queueAt_stays HBR.out) HQE.out).mono ?_
              rintro e w3 ⟨rfl, hb3⟩
              have HB3 := Lib.hid (bel_tr HBR.out hb3)
              go_wp2_with (go_at_call 19; refine (check_any rq _ _ (HQ2.out.stays queueAt_stays HB3.out)).mono ?_; rw [HCK.out]; rintro e w4 ⟨rfl, hb4⟩)
              have HB4 := Lib.hid (bel_tr HB3.out hb4)
              clear hb3 hb4 HBR HB3
              go_loopw [13] (fun i' wr => ∃ (k : Nat), k ≤ l.length ∧ i' = .int .i64 k ∧ Below w4.heap.size w4 wr) (fun i' _ => l.length - (intOf i').toNat)
              case atStart => exact ⟨0, Nat.zero_le _, rfl, Below.refl _ _⟩
              case round =>
                obtain ⟨k, hk, rfl, hb⟩ := hrel
                have hbw2 := bel_tr HB4.out hb
                by_cases hlt : k < l.length
                · have HG := Lib.hid (List.getElem?_eq_getElem hlt)
                  obtain ⟨p, hp⟩ : ∃ p, p = l[k] := ⟨_, rfl⟩
                  rw [← hp] at HG
                  clear hp
                  have hltr : k < rq.length := by omega
                  have HGR := Lib.hid (List.getElem?_eq_getElem hltr)
                  obtain ⟨pr, hpr⟩ : ∃ p, p = rq[k] := ⟨_, rfl⟩
                  rw [← hpr] at HGR
                  clear hpr hltr
                  obtain ⟨b1, o1, u1, rfl, -, hu1, p0, p1, p2⟩ := cell_of_queues HL.out HG.out
                  obtain ⟨b2, o2, u2, rfl, -, hu2, q0, q1, q2⟩ := cell_of_queues HQ2.out HGR.out
                  replace p0 := cell_stays (bel_tr HBW.out hbw2) p0
                  replace p1 := cell_stays (bel_tr HBW.out hbw2) p1
                  replace p2 := cell_stays (bel_tr HBW.out hbw2) p2
                  replace q2 := cell_stays hbw2 q2
                  have x0 := cell_stays hbw2 y0
                  have x1 := cell_stays hbw2 y1
                  have HU1 := Lib.hid (hu1.stays itemAt_stays (bel_tr HBW.out hbw2))
                  have HU2 := Lib.hid (hu2.stays itemAt_stays hbw2)
                  obtain ⟨A3, c3, rfl, -⟩ := hu1
                  obtain ⟨A4, c4, rfl, -⟩ := hu2
                  have hk' : (k : Int) < (l.length : Int) := by omega
                  clear q0 q1
                  by_cases e1 : p.frm = a
                  · have g1 : (p.frm != a) = false := by simpa using e1
                    by_cases e2 : p.to = b
                    · have g2 : (p.to != b) = false := by simpa using e2
                      clear e1 e2
                      go_wp2_with fail
                      refine wp_region_F (fun W => W.cell? ⟨w.heap.size, 0, none⟩ = some (.int .i64 a) ∧ W.cell? ⟨w.heap.size, 1, none⟩ = some (.int .i64 b) ∧ W.cell? ⟨b1, o1 + k * 3, none⟩ = some (.int .i64 p.frm) ∧ W.cell? ⟨b1, o1 + k * 3 + 1, none⟩ = some (.int .i64 p.to) ∧ W.cell? ⟨b1, o1 + k * 3 + 2, none⟩ = some (.slice A3 p.items.length c3) ∧ W.cell? ⟨b2, o2 + k * 3 + 2, none⟩ = some (.slice A4 pr.items.length c4)) (by repeat (first | exact grows_cell _ _ _ | exact grows_true | refine grows_and ?_ ?_)) (by kernel_rfl) (by kernel_rfl) ?hF ?_; (case hF => (first | exact ⟨‹_›, ‹_›⟩ | (go_simp; done) | (simp [*]; done))); intro hne hxx; have hG : Hid (Grows (fun W => W.cell? ⟨w.heap.size, 0, none⟩ = some (.int .i64 a) ∧ W.cell? ⟨w.heap.size, 1, none⟩ = some (.int .i64 b) ∧ W.cell? ⟨b1, o1 + k * 3, none⟩ = some (.int .i64 p.frm) ∧ W.cell? ⟨b1, o1 + k * 3 + 1, none⟩ = some (.int .i64 p.to) ∧ W.cell? ⟨b1, o1 + k * 3 + 2, none⟩ = some (.slice A3 p.items.length c3) ∧ W.cell? ⟨b2, o2 + k * 3 + 2, none⟩ = some (.slice A4 pr.items.length c4))) := (by repeat (first | exact grows_cell _ _ _ | exact grows_true | refine grows_and ?_ ?_)); (repeat (go_big_quiet_step (fail))); clear hG hxx hne; refine wpQuiet_nil ?_; rintro _ ⟨⟨w', hb', hF'⟩, rfl⟩
                      clear hF'
                      go_wp2_with fail
                      go_roundw
                      case rel => exact ⟨k + 1, by omega, by go_num, bel_tr hb hb'⟩
                      case measure => simp [intOf]; omega
                    · have g2 : (p.to != b) = true := by simpa using e2
                      have hpe : pr.items = p.items := same_others HFQ.out HS.out HG.out HGR.out (fun h => e2 h.2)
                      rw [hpe] at q2
                      have HU2' : Hid (IsItems wr (.slice A4 p.items.length c4) p.items) := Lib.hid (by have h := HU2.out; rw [hpe] at h; exact h)
                      clear hpe
                      clear e1 e2
                      go_wp2_with fail
                      refine wp_region_F (fun W => W.cell? ⟨w.heap.size, 0, none⟩ = some (.int .i64 a) ∧ W.cell? ⟨w.heap.size, 1, none⟩ = some (.int .i64 b) ∧ W.cell? ⟨b1, o1 + k * 3, none⟩ = some (.int .i64 p.frm) ∧ W.cell? ⟨b1, o1 + k * 3 + 1, none⟩ = some (.int .i64 p.to) ∧ W.cell? ⟨b1, o1 + k * 3 + 2, none⟩ = some (.slice A3 p.items.length c3) ∧ W.cell? ⟨b2, o2 + k * 3 + 2, none⟩ = some (.slice A4 p.items.length c4)) (by repeat (first | exact grows_cell _ _ _ | exact grows_true | refine grows_and ?_ ?_)) (by kernel_rfl) (by kernel_rfl) ?hF ?_; (case hF => (first | exact ⟨‹_›, ‹_›⟩ | (go_simp; done) | (simp [*]; done))); intro hne hxx; have hG : Hid (Grows (fun W => W.cell? ⟨w.heap.size, 0, none⟩ = some (.int .i64 a) ∧ W.cell? ⟨w.heap.size, 1, none⟩ = some (.int .i64 b) ∧ W.cell? ⟨b1, o1 + k * 3, none⟩ = some (.int .i64 p.frm) ∧ W.cell? ⟨b1, o1 + k * 3 + 1, none⟩ = some (.int .i64 p.to) ∧ W.cell? ⟨b1, o1 + k * 3 + 2, none⟩ = some (.slice A3 p.items.length c3) ∧ W.cell? ⟨b2, o2 + k * 3 + 2, none⟩ = some (.slice A4 p.items.length c4))) := (by repeat (first | exact grows_cell _ _ _ | exact grows_true | refine grows_and ?_ ?_)); (repeat (go_big_quiet_step ((go_at_call 32; exact cls_callB hG (fun W hW => sameItems_eq p.items _ _ W (HU1.out.stays itemAt_stays hW) (HU2'.out.stays itemAt_stays hW)))))); clear hG hxx hne; refine wpQuiet_nil ?_; rintro _ ⟨⟨w', hb', hF'⟩, rfl⟩
                      clear hF'
                      go_wp2_with fail
                      go_roundw
                      case rel => exact ⟨k + 1, by omega, by go_num, bel_tr hb hb'⟩
                      case measure => simp [intOf]; omega
                  · have g1 : (p.frm != a) = true := by simpa using e1
                    have hpe : pr.items = p.items := same_others HFQ.out HS.out HG.out HGR.out (fun h => e1 h.1)
                    rw [hpe] at q2
                    have HU2' : Hid (IsItems wr (.slice A4 p.items.length c4) p.items) := Lib.hid (by have h := HU2.out; rw [hpe] at h; exact h)
                    clear hpe
                    clear e1
                    go_wp2_with fail
                    refine wp_region_F (fun W => W.cell? ⟨w.heap.size, 0, none⟩ = some (.int .i64 a) ∧ W.cell? ⟨w.heap.size, 1, none⟩ = some (.int .i64 b) ∧ W.cell? ⟨b1, o1 + k * 3, none⟩ = some (.int .i64 p.frm) ∧ W.cell? ⟨b1, o1 + k * 3 + 1, none⟩ = some (.int .i64 p.to) ∧ W.cell? ⟨b1, o1 + k * 3 + 2, none⟩ = some (.slice A3 p.items.length c3) ∧ W.cell? ⟨b2, o2 + k * 3 + 2, none⟩ = some (.slice A4 p.items.length c4)) (by repeat (first | exact grows_cell _ _ _ | exact grows_true | refine grows_and ?_ ?_)) (by kernel_rfl) (by kernel_rfl) ?hF ?_; (case hF => (first | exact ⟨‹_›, ‹_›⟩ | (go_simp; done) | (simp [*]; done))); intro hne hxx; have hG : Hid (Grows (fun W => W.cell? ⟨w.heap.size, 0, none⟩ = some (.int .i64 a) ∧ W.cell? ⟨w.heap.size, 1, none⟩ = some (.int .i64 b) ∧ W.cell? ⟨b1, o1 + k * 3, none⟩ = some (.int .i64 p.frm) ∧ W.cell? ⟨b1, o1 + k * 3 + 1, none⟩ = some (.int .i64 p.to) ∧ W.cell? ⟨b1, o1 + k * 3 + 2, none⟩ = some (.slice A3 p.items.length c3) ∧ W.cell? ⟨b2, o2 + k * 3 + 2, none⟩ = some (.slice A4 p.items.length c4))) := (by repeat (first | exact grows_cell _ _ _ | exact grows_true | refine grows_and ?_ ?_)); (repeat (go_big_quiet_step ((go_at_call 32; exact cls_callB hG (fun W hW => sameItems_eq p.items _ _ W (HU1.out.stays itemAt_stays hW) (HU2'.out.stays itemAt_stays hW)))))); clear hG hxx hne; refine wpQuiet_nil ?_; rintro _ ⟨⟨w', hb', hF'⟩, rfl⟩
                    clear hF'
                    go_wp2_with fail
                    go_roundw
                    case rel => exact ⟨k + 1, by omega, by go_num, bel_tr hb hb'⟩
                    case measure => simp [intOf]; omega
                · go_wp2_with (go_at_call 13; refine (awake_any _).mono ?_; rintro e w5 ⟨rfl, hb5⟩)
                  go_ret
                  exact ⟨rfl, bel_tr (bel_tr HBW.out hbw2) hb5⟩
        · have g0 : (rc != 0) = true := by simpa using h0
          have hre := sendR_err (by rw [hr]; exact h0 : (sendR l a b items).2 ≠ 0)
          rw [hr] at hre
          simp only at hre
          subst hre
          clear hr h0 hz HQ2
          go_wp2_with (go_at_call 13; refine (awake_any _).mono ?_; rintro e w3 ⟨rfl, hb3⟩)
          go_ret
          exact ⟨by simp, bel_tr hbw hb3⟩

set_option maxRecDepth 100000 in
theorem joins_lifted (os : Os) (started : os.Started) (H : Type) (enc : TypeId × Value → H) :
    ReturnsInHanded {} Try.checked os 9 .any (Rows.channelJoinsSpec.pre6 enc Try.prog Try.f9 Rows.channelJoinsRow.domain false) (Rows.channelJoinsSpec.post enc Try.prog Try.f9 false true false false) := by
  refine returnsInHanded_of_change (C := Try.checked) own_none started (by kernel_rfl) Try.func9
    (ChangeSpec.witness6 (enc := enc) (C := Try.checked) false ⟨#[], #[.slice none 0 0, .agg #[.int .i64 0, .int .i64 0], .slice none 0 0], []⟩ 8 (by kernel_rfl) (by kernel_rfl) (by kernel_rfl) (by kernel_rfl)) ?_
  intro W base args ds gs before hval0 hW hcnd _
  have hval : ∀ (j : Nat) t v, Try.f9.params[j]? = some t → args[j]? = some v → Value.okWide Try.prog W .any base t v := hval0
  have hW' := hW
  obtain ⟨p, q, hA0, hV, rfl, hfz, hnd⟩ := hW
  have hA : DataW.TrodAll enc Try.prog W 0 (fun _ => true) true Try.f9.params.toList args.toList ds p := hA0
  rw [Try.params9] at hA hval
  obtain ⟨v0, vs0, d0, ds0, p0, q0, hargs, rfl, rfl, h0, r0⟩ := trodAll_cons hA
  obtain ⟨v1, vs1, d1, ds1, p1, q1, rfl, rfl, rfl, h1, r1⟩ := trodAll_cons r0
  obtain ⟨v2, vs2, d2, ds2, p2, q2, rfl, rfl, rfl, h2, r2⟩ := trodAll_cons r1
  obtain ⟨rfl, rfl, rfl⟩ := trodAll_nil r2
  obtain rfl : args = #[v0, v1, v2] := by cases args; simp_all
  obtain ⟨rfl, rfl⟩ := trodVars_none hV
  have k0 := h0
  have lt0 : ∀ x ∈ p0, x.block < W.heap.size := by obtain ⟨m, hm⟩ := k0; exact DataW.trod_lt m _ _ _ hm
  obtain ⟨s0, len0, cap0, rfl⟩ := okWide_slice Try.underlying22 (hval 0 22 v0 rfl rfl)
  obtain ⟨l0, w0⟩ : ∃ l, IsQueues W (.slice s0 len0 cap0) l := by obtain ⟨fuel, hf⟩ := h0; exact read_queues (v := .slice s0 len0 cap0) hf
  have k1 := h1
  have lt1 : ∀ x ∈ p1, x.block < W.heap.size := by obtain ⟨m, hm⟩ := k1; exact DataW.trod_lt m _ _ _ hm
  obtain ⟨a1, b1, rfl⟩ := read_arr2 h1
  have k2 := h2
  have lt2 : ∀ x ∈ p2, x.block < W.heap.size := by obtain ⟨m, hm⟩ := k2; exact DataW.trod_lt m _ _ _ hm
  obtain ⟨s2, len2, cap2, rfl⟩ := okWide_slice Try.underlying24 (hval 2 24 v2 rfl rfl)
  obtain ⟨l2, w2⟩ : ∃ l, IsItems W (.slice s2 len2 cap2) l := by obtain ⟨fuel, hf⟩ := h2; exact read_items (v := .slice s2 len2 cap2) hf
  clear hA0 hval0
  refine (joins_walk l0 _ a1 b1 l2 _ W w0 w2).mono fun e W' ⟨he, bel⟩ => ?_
  subst he
  exact ⟨_, rfl, _, _, _, [], _, [], hW', trodAll_mk1 (shut_bool Try.underlying4 _), (trodAll_cons_mk (Below.trod laid_out (by kernel_rfl) (of_decide_eq_true (by kernel_rfl)) k0 bel lt0) (trodAll_cons_mk (Below.trod laid_out (by kernel_rfl) (of_decide_eq_true (by kernel_rfl)) k1 bel lt1) (trodAll_cons_mk (Below.trod laid_out (by kernel_rfl) (of_decide_eq_true (by kernel_rfl)) k2 bel lt2) trodAll_mk0))), rfl, bel.frame _, fun h => by cases h⟩

theorem joins_over : Rows.channelJoinsRow.holds Try.pinned (OpenSpec.ofChange Rows.channelJoinsSpec) :=
  OpenClaim.holds_of_wide 9 Try.f9 rfl rfl rfl rfl rfl rfl rfl ⟨rfl, rfl, rfl, rfl, rfl⟩ rfl rfl rfl rfl rfl (by kernel_rfl) Try.func9 (by kernel_rfl)
    (of_decide_eq_true (by kernel_rfl)) (by unfold Func.isWrapper; first | (rw [if_pos (by decide +kernel)]; kernel_rfl) | (rw [if_neg (by decide +kernel)]; exact ⟨rfl, rfl⟩))
    (fun os started H enc _ => joins_lifted os started H enc)

theorem joins_holds : Rows.ChannelJoinsSaid := joins_over
#print axioms joins_holds
end Go.Proofs.Yteonfoaemljndaa
