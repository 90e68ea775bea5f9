/- The law ChannelDrains: receiving is possible exactly for the queues that Ready names, yields what Peek returns, and shortens the queue by this item. No condition. -/
import Derived.Test.YteonfoaemljndaaRows
import Derived.Test.YteonfoaemljndaaOpen
import Derived.Test.YteonfoaemljndaaFew
import Derived.Test.YteonfoaemljndaaSames
import Derived.Test.YteonfoaemljndaaPlain
import Derived.Test.YteonfoaemljndaaPeek
import Derived.Test.YteonfoaemljndaaRecv
import Derived.Test.YteonfoaemljndaaRrecv
import Derived.Test.YteonfoaemljndaaAwake
import Derived.Test.YteonfoaemljndaaJoins2
import Derived.Deep.RegionHeld3
import Derived.ProofKit
import Derived.OpenShut
import Derived.ChangeOld
import Derived.Below
namespace Go.Proofs.Yteonfoaemljndaa
open Go.ChangeShapes Go.WideShapes Go.ChangeAt Go.RowKit

theorem mem_take_succ {l : List Int} {k : Nat} {z a : Int} (h : l[k]? = some z) : a ∈ l.take (k + 1) ↔ (a ∈ l.take k ∨ z = a) := by
  rw [take_snoc' h, List.mem_append, List.mem_singleton]
  constructor
  · rintro (h | h)
    · exact .inl h
    · exact .inr h.symm
  · rintro (h | h)
    · exact .inl h
    · exact .inr h.symm

theorem tail_if {W : World} {gi og ci n : Nat} {l : List Item} {x : Item} {xs : List Item} (h : IsItems W (.slice (some ⟨gi, og, none⟩) n ci) l) (hx : l = x :: xs) : IsItems W (.slice (if ci = 1 then some ⟨gi, og, none⟩ else some ⟨gi, og + 7, none⟩) (n - 1) (ci - 1)) xs := by
  refine tail_at h hx ?_
  by_cases hc : ci = 1
  · exact .inl hc
  · right; rw [if_neg hc]

set_option maxRecDepth 100000 in
set_option maxHeartbeats 2000000 in
theorem drains_walk (l : List Queue) (v : Value) (a b : Int) (w : World) (hl : IsQueues w v l) :
    Calls Try.prog 10 #[v, .int .i64 a, .int .i64 b] w fun e w' => e = .returned (.bool true) ∧ Below w.heap.size w w' := by
  have HL := Lib.hid hl
  obtain ⟨A, c, rfl, hlc, hcm, -⟩ := hl
  obtain ⟨f1, hf1⟩ : ∃ f1, fewB l = f1 := ⟨_, rfl⟩
  obtain ⟨ce, hce⟩ : ∃ ce, checkErr l = ce := ⟨_, rfl⟩
  cases f1 with
  | false =>
    go_enter Try.func10, Try.ntmps10
    go_wp2_with (first
      | (go_at_call 11; refine (few_any l _ _ HL.out).mono ?_; rw [hf1]; rintro e w1 ⟨rfl, rfl⟩; clear hf1)
      | (go_at_call 13; refine (awake_any _).mono ?_; rintro e w2 ⟨rfl, hb2⟩))
    go_ret
    exact ⟨rfl, hb2⟩
  | true =>
    by_cases g0 : (ce != 0) = true
    · go_enter Try.func10, Try.ntmps10
      go_wp2_with (first
        | (go_at_call 11; refine (few_any l _ _ HL.out).mono ?_; rw [hf1]; rintro e w1 ⟨rfl, rfl⟩; clear hf1)
        | (go_at_call 19; refine (check_any l _ _ HL.out).mono ?_; rw [hce]; rintro e w1 ⟨rfl, hb1⟩; clear hce)
        | (go_at_call 13; refine (awake_any _).mono ?_; rintro e w2 ⟨rfl, hb2⟩))
      go_ret
      exact ⟨rfl, bel_tr hb1 hb2⟩
    · simp only [Bool.not_eq_true] at g0
      obtain ⟨hsm, hit⟩ := few_bounds hf1
      have HIT : Hid (∀ q ∈ l, q.items.length ≤ 1048576) := Lib.hid (fun q hq => by have := (hit q hq).1; omega)
      clear hit
      have hc0 : checkErr l = 0 := by rw [hce]; simpa using g0
      have HC0 := Lib.hid hc0
      obtain ⟨rl, hrl⟩ : ∃ r, readyL l b = r := ⟨_, rfl⟩
      have HRL := Lib.hid hrl
      have HRD : Hid (readyR l b = (rl, 0)) := Lib.hid (by rw [readyR_ok hc0, hrl])
      clear hc0 hrl
      go_enter Try.func10, Try.ntmps10
      go_wp2_with (first
        | (go_at_call 11; refine (few_any l _ _ HL.out).mono ?_; rw [hf1]; rintro e w1 ⟨rfl, rfl⟩; clear hf1)
        | (go_at_call 19; refine (check_any l _ _ HL.out).mono ?_; rw [hce]; rintro e w1 ⟨rfl, hb1⟩; clear hce))
      refine (ready_any l _ b _ (HL.out.stays queueAt_stays hb1) (by omega)).mono ?_
      rw [HRD.out]
      rintro e w2 ⟨v2, rfl, hq2, hb2⟩
      simp only at hq2
      have HQ2 := Lib.hid hq2
      obtain ⟨A2, c2, rfl, hn2, hn2', -⟩ := hq2
      have hn := len_i64 hn2 hn2'
      have HBW := Lib.hid (bel_tr hb1 hb2)
      clear hb1 hb2 hn2 hn2'
      go_wp2_with fail
      go_loopw [9, 10] (fun nb i wr => ∃ (k : Nat) (n : Bool), k ≤ rl.length ∧ i = .int .i64 k ∧ nb = .bool n ∧ Hid (n = true ↔ a ∈ rl.take k) ∧ Below w2.heap.size w2 wr) (fun _ i _ => rl.length - (intOf i).toNat)
      case atStart => exact ⟨0, false, Nat.zero_le _, rfl, rfl, Lib.hid (by simp), Below.refl _ _⟩
      case round =>
        obtain ⟨k, n, hk, rfl, rfl, hI, hb⟩ := hrel
        by_cases hlt : k < rl.length
        · obtain ⟨_, _, hv2, -, -, hat2⟩ := HQ2.out
          injection hv2 with e1 _ e3
          subst e1 e3
          have HG := Lib.hid (List.getElem?_eq_getElem hlt)
          obtain ⟨z, hz⟩ : ∃ z, z = rl[k] := ⟨_, rfl⟩
          rw [← hz] at HG
          clear hz
          obtain ⟨b2, o2, rfl, p2⟩ := hat2 k z HG.out
          replace p2 := cell_stays hb p2
          simp only [Nat.mul_one] at p2
          clear hat2
          have hk' : (k : Int) < (rl.length : Int) := by omega
          cases n with
          | true =>
            go_wp2_with fail
            go_roundw
            case rel => exact ⟨k + 1, true, by omega, by go_num, rfl, by rw [mem_take_succ HG.out]; simp only [true_iff]; exact .inl (hI.out.1 rfl), hb⟩
            case measure => simp [intOf]; omega
          | false =>
            obtain ⟨n2, hn2⟩ : ∃ n2, (z == a) = n2 := ⟨_, rfl⟩
            have HN2 := Lib.hid hn2
            go_wp2_with fail
            go_roundw
            case rel => exact ⟨k + 1, n2, by omega, by go_num, rfl, by rw [mem_take_succ HG.out, ← HN2.out, beq_iff_eq]; exact ⟨.inr, fun h => h.elim (fun h => absurd (hI.out.2 h) (by simp)) id⟩, hb⟩
            case measure => simp [intOf]; omega
        · obtain rfl : k = rl.length := by omega
          have HNB : Hid (n = true ↔ (receiveR l a b).2.2 = 0) := Lib.hid (by have h := hI.out; rw [List.take_length, ← HRL.out, ready_iff HC0.out] at h; exact h)
          obtain ⟨⟨rq, rx, rc⟩, hr⟩ : ∃ r, receiveR l a b = r := ⟨_, rfl⟩
          have HR := Lib.hid hr
          clear hI
          go_wp2_with fail
          refine (receive_any l _ a b _ (HL.out.stays queueAt_stays (bel_tr HBW.out hb)) (by omega) HIT.out).mono ?_
          rw [HR.out]
          rintro e w3 ⟨v3, u3, rfl, hq3, hu3, hb3⟩
          simp only at hq3 hu3
          obtain ⟨A3, c3, rfl, hcc3, hcm3, -⟩ := id hq3
          obtain ⟨B3, d3', rfl, -⟩ := id hu3
          have HQ3 := Lib.hid hq3
          have HU3 := Lib.hid hu3
          have HB3 := Lib.hid (bel_tr (bel_tr HBW.out hb) hb3)
          clear hq3 hu3
          by_cases hrc : rc = 0
          · have g1 : (rc == 0) = true := by simpa using hrc
            have g2 : (rc != 0) = false := by simpa using hrc
            obtain ⟨i, q, x, xs, hf, hfq, hq, hqi, hre, hpe, hfr⟩ := receive_inv (by rw [hr]; exact hrc : (receiveR l a b).2.2 = 0)
            have hnt : n = true := HNB.out.2 (by rw [hr]; exact hrc)
            subst hnt
            rw [hr] at hre
            injection hre with er1 er2
            injection er2 with er2 er3
            replace er2 := er2.symm
            subst er2
            have HS := Lib.hid er1
            have hrl : rq.length = l.length := by rw [er1, setItems_length]
            replace HQ3 : Hid (IsQueues w3 (.slice A3 l.length c3) rq) := Lib.hid (by have h := HQ3.out; rw [hrl] at h; exact h)
            have HM : Hid (rq[i]? = some (withItems q xs)) := Lib.hid (by rw [er1]; exact setItems_get hq)
            clear er1
            have HQ := Lib.hid hq
            have HQI := Lib.hid hqi
            have HPE := Lib.hid hpe
            have HFR := Lib.hid hfr
            have hil := (List.getElem?_eq_some_iff.1 hq).1
            clear hr hrc hf hfq hq hqi hpe hfr er3 HNB
            obtain ⟨b1, o1, ul, rfl, -, hul, p0, p1, p2⟩ := cell_of_queues HL.out HQ.out
            obtain ⟨b2, o2, um, rfl, -, hum, q0, q1, q2⟩ := cell_of_queues HQ3.out HM.out
            have HUL := Lib.hid hul
            have HUM : Hid (IsItems w3 um xs) := Lib.hid hum
            obtain ⟨Au, cu, rfl, hcu1, hcu2, hat⟩ := hul
            obtain ⟨Am, cm, rfl, -⟩ := (HUM.out : IsItems w3 um xs)
            obtain ⟨b4, o4, rfl, v4, hv4, d0, d1, d2, d3, d4, d5, d6⟩ := hat 0 x (by rw [HQI.out]; rfl)
            simp only [Nat.zero_mul, Nat.add_zero] at d0 d1 d2 d3 d4 d5 d6
            have HV := Lib.hid hv4
            obtain ⟨A6, c6, rfl, -⟩ := hv4
            clear hat hum p0 p1 q0 q1
            have hn1 : (0 : Int) < (q.items.length : Int) := by rw [HQI.out, List.length_cons]; omega
            have hn2 : 1 ≤ q.items.length := by omega
            have hn3 : 0 < q.items.length := by omega
            have hn4 : (1 : Int) ≤ (q.items.length : Int) := by omega
            have hn5 : q.items.length ≠ 0 := by omega
            have hn6 : (q.items.length : Int) ≤ (cu : Int) := by omega
            have hn0 : (((q.items.length : Nat) : Int) == 0) = false := by rw [beq_eq_false_iff_ne]; omega
            have hil' : (i : Int) < (l.length : Int) := by omega
            have hi0 : ¬ ((i : Int) < 0) := by omega
            unfold itemV
            go_wp2_with fail
            refine (peek_any l _ a b _ (HL.out.stays queueAt_stays (bel_al HB3.out _)) (by omega)).mono ?_
            rw [HPE.out]
            rintro e w4 ⟨u4, rfl, hu4, hb4⟩
            simp only at hu4
            obtain ⟨B4, d4', rfl, -⟩ := id hu4
            have HU4 := Lib.hid hu4
            clear hu4
            have y3 := (new_cells hb4).1
            have hl3 : w3.heap.size < w4.heap.size := by have := hb4.size; simp at this; omega
            have hb34 := bel_tr (bel_one _ _) hb4
            have HB34 := Lib.hid hb34
            have HBX := Lib.hid (bel_tr HB3.out hb34)
            replace p2 := cell_stays HBX.out p2
            replace q2 := cell_stays hb34 q2
            replace d0 := cell_stays HBX.out d0
            replace d1 := cell_stays HBX.out d1
            replace d2 := cell_stays HBX.out d2
            replace d3 := cell_stays HBX.out d3
            replace d4 := cell_stays HBX.out d4
            replace d5 := cell_stays HBX.out d5
            replace d6 := cell_stays HBX.out d6
            have k1 := World.block_lt_of_cell? w4 _ p2
            have k2 := World.block_lt_of_cell? w4 _ q2
            have k4 := World.block_lt_of_cell? w4 _ d0
            simp only at k1 k2 k4
            clear hb4 hb34
            unfold itemV
            go_wp2_with (first
              | (go_at_call 33; refine (rfind_any l _ a b _ (HL.out.stays queueAt_stays (bel_al HBX.out _))).mono ?_; rw [HFR.out]; rintro e w5 ⟨rfl, rfl⟩)
              | (go_at_call 27; refine (sameItem_eq x _ _ _ (HU3.out.stays valAt_stays (bel_al HB34.out _)) (HU4.out.stays valAt_stays (bel_one _ _))).mono ?_; rintro e w6 ⟨rfl, hb6⟩; replace p2 := cell_via hb6 p2; replace q2 := cell_via hb6 q2; replace d0 := cell_via hb6 d0; replace d1 := cell_via hb6 d1; replace d2 := cell_via hb6 d2; replace d3 := cell_via hb6 d3; replace d4 := cell_via hb6 d4; replace d5 := cell_via hb6 d5; replace d6 := cell_via hb6 d6; replace y3 := arr_keep y3 hl3 (bel_tr (bel_one _ _) hb6); replace k1 := World.block_lt_of_cell? w6 _ p2; replace k2 := World.block_lt_of_cell? w6 _ q2; replace k4 := World.block_lt_of_cell? w6 _ d0; simp only at k1 k2 k4))
            have x0 : w6.cell? ⟨w3.heap.size, 0, none⟩ = some (.int .i64 x.kind) := y3 0
            have x1 : w6.cell? ⟨w3.heap.size, 1, none⟩ = some (.int .i64 x.source) := y3 1
            have x2 : w6.cell? ⟨w3.heap.size, 2, none⟩ = some (.int .i64 x.seq) := y3 2
            have x3 : w6.cell? ⟨w3.heap.size, 3, none⟩ = some (.int .i64 x.type) := y3 3
            have x4 : w6.cell? ⟨w3.heap.size, 4, none⟩ = some (.int .i64 x.time) := y3 4
            have x5 : w6.cell? ⟨w3.heap.size, 5, none⟩ = some (.slice B3 x.values.length d3') := y3 5
            have x6 : w6.cell? ⟨w3.heap.size, 6, none⟩ = some (.int .i64 x.number) := y3 6
            have HB36 := Lib.hid (bel_tr (bel_tr HB34.out (bel_one _ _)) hb6)
            have HB06 := Lib.hid (bel_tr HB3.out HB36.out)
            clear y3 hb6
            refine wp_region_F (fun W => W.cell? ⟨b1, o1 + i * 3 + 2, none⟩ = some (.slice (some ⟨b4, o4, none⟩) q.items.length cu) ∧ W.cell? ⟨b2, o2 + i * 3 + 2, none⟩ = some (.slice Am xs.length cm) ∧ W.cell? ⟨w3.heap.size, 0, none⟩ = some (.int .i64 x.kind) ∧ W.cell? ⟨w3.heap.size, 1, none⟩ = some (.int .i64 x.source) ∧ W.cell? ⟨w3.heap.size, 2, none⟩ = some (.int .i64 x.seq) ∧ W.cell? ⟨w3.heap.size, 3, none⟩ = some (.int .i64 x.type) ∧ W.cell? ⟨w3.heap.size, 4, none⟩ = some (.int .i64 x.time) ∧ W.cell? ⟨w3.heap.size, 5, none⟩ = some (.slice B3 x.values.length d3') ∧ W.cell? ⟨w3.heap.size, 6, none⟩ = some (.int .i64 x.number) ∧ W.cell? ⟨b4, o4, none⟩ = some (.int .i64 x.kind) ∧ W.cell? ⟨b4, o4 + 1, none⟩ = some (.int .i64 x.source) ∧ W.cell? ⟨b4, o4 + 2, none⟩ = some (.int .i64 x.seq) ∧ W.cell? ⟨b4, o4 + 3, none⟩ = some (.int .i64 x.type) ∧ W.cell? ⟨b4, o4 + 4, none⟩ = some (.int .i64 x.time) ∧ W.cell? ⟨b4, o4 + 5, none⟩ = some (.slice A6 x.values.length c6) ∧ W.cell? ⟨b4, o4 + 6, none⟩ = some (.int .i64 x.number)) (by repeat (first | exact grows_cell _ _ _ | exact grows_true | refine grows_and ?_ ?_)) (by kernel_rfl) (by kernel_rfl) ?hF ?_; (case hF => (first | exact ⟨‹_›, ‹_›⟩ | (go_simp; done) | (simp [*]; done))); intro hne hxx; have hG : Hid (Grows (fun W => W.cell? ⟨b1, o1 + i * 3 + 2, none⟩ = some (.slice (some ⟨b4, o4, none⟩) q.items.length cu) ∧ W.cell? ⟨b2, o2 + i * 3 + 2, none⟩ = some (.slice Am xs.length cm) ∧ W.cell? ⟨w3.heap.size, 0, none⟩ = some (.int .i64 x.kind) ∧ W.cell? ⟨w3.heap.size, 1, none⟩ = some (.int .i64 x.source) ∧ W.cell? ⟨w3.heap.size, 2, none⟩ = some (.int .i64 x.seq) ∧ W.cell? ⟨w3.heap.size, 3, none⟩ = some (.int .i64 x.type) ∧ W.cell? ⟨w3.heap.size, 4, none⟩ = some (.int .i64 x.time) ∧ W.cell? ⟨w3.heap.size, 5, none⟩ = some (.slice B3 x.values.length d3') ∧ W.cell? ⟨w3.heap.size, 6, none⟩ = some (.int .i64 x.number) ∧ W.cell? ⟨b4, o4, none⟩ = some (.int .i64 x.kind) ∧ W.cell? ⟨b4, o4 + 1, none⟩ = some (.int .i64 x.source) ∧ W.cell? ⟨b4, o4 + 2, none⟩ = some (.int .i64 x.seq) ∧ W.cell? ⟨b4, o4 + 3, none⟩ = some (.int .i64 x.type) ∧ W.cell? ⟨b4, o4 + 4, none⟩ = some (.int .i64 x.time) ∧ W.cell? ⟨b4, o4 + 5, none⟩ = some (.slice A6 x.values.length c6) ∧ W.cell? ⟨b4, o4 + 6, none⟩ = some (.int .i64 x.number))) := (by repeat (first | exact grows_cell _ _ _ | exact grows_true | refine grows_and ?_ ?_)); (repeat (go_big_quiet_step ((first | (go_at_call 13; exact cls_callB hG (fun W _ => awake_any W)) | (go_at_call 32; exact cls_callB hG (fun W hW => sameItems_eq xs _ _ W (HUM.out.stays itemAt_stays (bel_tr HB36.out hW)) (tail_if (HUL.out.stays itemAt_stays (bel_tr HB06.out hW)) HQI.out))) | (go_at_call 27; exact cls_callB hG (fun W hW => sameItem_eq x _ _ W (HU3.out.stays valAt_stays (bel_tr HB36.out hW)) (HV.out.stays valAt_stays (bel_tr HB06.out hW)))))))); clear hG hxx hne; refine wpQuiet_nil ?_; rintro _ ⟨⟨w', hb', hF'⟩, rfl⟩
            clear hF'
            go_wp2_with fail
            all_goals
              go_ret
              exact ⟨by simp, bel_tr HB06.out (by assumption)⟩
          · have g1 : (rc == 0) = false := by simpa using hrc
            have g2 : (rc != 0) = true := by simpa using hrc
            have hnf : n = false := by
              cases n with
              | false => rfl
              | true => exact absurd (HNB.out.1 rfl) (by rw [hr]; exact hrc)
            subst hnf
            have he := receive_err HC0.out (by rw [hr]; exact hrc : (receiveR l a b).2.2 ≠ 0)
            rw [hr] at he
            simp only at he
            clear hr HNB hrc
            unfold itemV
            by_cases h6 : rc = 6
            · have g6 : (rc == 6) = true := by simpa using h6
              clear he h6
              go_wp2_with (go_at_call 13; refine (awake_any _).mono ?_; rintro e w4 ⟨rfl, hb4⟩)
              go_ret
              exact ⟨by simp, bel_tr (bel_al HB3.out _) hb4⟩
            · have g6 : (rc == 6) = false := by simpa using h6
              have g20 : (rc == 20) = true := by simp only [beq_iff_eq]; omega
              clear he h6
              go_wp2_with (go_at_call 13; refine (awake_any _).mono ?_; rintro e w4 ⟨rfl, hb4⟩)
              go_ret
              exact ⟨by simp, bel_tr (bel_al HB3.out _) hb4⟩

set_option maxRecDepth 100000 in
theorem drains_lifted (os : Os) (started : os.Started) (H : Type) (enc : TypeId × Value → H) :
    ReturnsInHanded {} Try.checked os 10 .any (Rows.channelDrainsSpec.pre6 enc Try.prog Try.f10 Rows.channelDrainsRow.domain false) (Rows.channelDrainsSpec.post enc Try.prog Try.f10 false true false false) := by
  refine returnsInHanded_of_change (C := Try.checked) own_none started (by kernel_rfl) Try.func10
    (ChangeSpec.witness6 (enc := enc) (C := Try.checked) false ⟨#[], #[.slice none 0 0, .int .i64 0, .int .i64 0], []⟩ 8 (by kernel_rfl) (by kernel_rfl) (by kernel_rfl) (by kernel_rfl)) ?_
  intro W base args ds gs before hval0 hW hcnd _
  have hval : ∀ (j : Nat) t v, Try.f10.params[j]? = some t → args[j]? = some v → Value.okWide Try.prog W .any base t v := hval0
  have hW' := hW
  obtain ⟨p, q, hA0, hV, rfl, hfz, hnd⟩ := hW
  have hA : DataW.TrodAll enc Try.prog W 0 (fun _ => true) true Try.f10.params.toList args.toList ds p := hA0
  rw [Try.params10] at hA hval
  obtain ⟨v0, vs0, d0, ds0, p0, q0, hargs, rfl, rfl, h0, r0⟩ := trodAll_cons hA
  obtain ⟨v1, vs1, d1, ds1, p1, q1, rfl, rfl, rfl, h1, r1⟩ := trodAll_cons r0
  obtain ⟨v2, vs2, d2, ds2, p2, q2, rfl, rfl, rfl, h2, r2⟩ := trodAll_cons r1
  obtain ⟨rfl, rfl, rfl⟩ := trodAll_nil r2
  obtain rfl : args = #[v0, v1, v2] := by cases args; simp_all
  obtain ⟨rfl, rfl⟩ := trodVars_none hV
  have k0 := h0
  have lt0 : ∀ x ∈ p0, x.block < W.heap.size := by obtain ⟨m, hm⟩ := k0; exact DataW.trod_lt m _ _ _ hm
  obtain ⟨s0, len0, cap0, rfl⟩ := okWide_slice Try.underlying22 (hval 0 22 v0 rfl rfl)
  obtain ⟨l0, w0⟩ : ∃ l, IsQueues W (.slice s0 len0 cap0) l := by obtain ⟨fuel, hf⟩ := h0; exact read_queues (v := .slice s0 len0 cap0) hf
  have k1 := h1
  have lt1 : ∀ x ∈ p1, x.block < W.heap.size := by obtain ⟨m, hm⟩ := k1; exact DataW.trod_lt m _ _ _ hm
  obtain ⟨a1, e1⟩ : ∃ a, v1 = .int .i64 a := by obtain ⟨a, e, _⟩ := open_int Try.underlying3 (hval 1 3 v1 rfl rfl) h1; exact ⟨a, e⟩
  subst e1
  have k2 := h2
  have lt2 : ∀ x ∈ p2, x.block < W.heap.size := by obtain ⟨m, hm⟩ := k2; exact DataW.trod_lt m _ _ _ hm
  obtain ⟨a2, e2⟩ : ∃ a, v2 = .int .i64 a := by obtain ⟨a, e, _⟩ := open_int Try.underlying3 (hval 2 3 v2 rfl rfl) h2; exact ⟨a, e⟩
  subst e2
  clear hA0 hval0
  refine (drains_walk l0 _ a1 a2 W w0).mono fun e W' ⟨he, bel⟩ => ?_
  subst he
  exact ⟨_, rfl, _, _, _, [], _, [], hW', trodAll_mk1 (shut_bool Try.underlying4 _), (trodAll_cons_mk (Below.trod laid_out (by kernel_rfl) (of_decide_eq_true (by kernel_rfl)) k0 bel lt0) (trodAll_cons_mk (Below.trod laid_out (by kernel_rfl) (of_decide_eq_true (by kernel_rfl)) k1 bel lt1) (trodAll_cons_mk (Below.trod laid_out (by kernel_rfl) (of_decide_eq_true (by kernel_rfl)) k2 bel lt2) trodAll_mk0))), rfl, bel.frame _, fun h => by cases h⟩

theorem drains_over : Rows.channelDrainsRow.holds Try.pinned (OpenSpec.ofChange Rows.channelDrainsSpec) :=
  OpenClaim.holds_of_wide 10 Try.f10 rfl rfl rfl rfl rfl rfl rfl ⟨rfl, rfl, rfl, rfl, rfl⟩ rfl rfl rfl rfl rfl (by kernel_rfl) Try.func10 (by kernel_rfl)
    (of_decide_eq_true (by kernel_rfl)) (by unfold Func.isWrapper; first | (rw [if_pos (by decide +kernel)]; kernel_rfl) | (rw [if_neg (by decide +kernel)]; exact ⟨rfl, rfl⟩))
    (fun os started H enc _ => drains_lifted os started H enc)

theorem drains_holds : Rows.ChannelDrainsSaid := drains_over
#print axioms drains_holds
end Go.Proofs.Yteonfoaemljndaa
