/- The law ChannelOrders: what is sent to a queue is received from it in the same order, whatever is sent to another one in between. No condition. -/
import Derived.Test.YteonfoaemljndaaRows
import Derived.Test.YteonfoaemljndaaOpen
import Derived.Test.YteonfoaemljndaaFew
import Derived.Test.YteonfoaemljndaaSames
import Derived.Test.YteonfoaemljndaaPlain
import Derived.Test.YteonfoaemljndaaSend
import Derived.Test.YteonfoaemljndaaRecv
import Derived.Test.YteonfoaemljndaaBegin
import Derived.Test.YteonfoaemljndaaRrecv
import Derived.Test.YteonfoaemljndaaAwake
import Derived.Test.YteonfoaemljndaaJoins1
import Derived.Lib.MinMax
import Derived.ProofKit
import Derived.OpenShut
import Derived.ChangeOld
import Derived.Below
namespace Go.Proofs.Yteonfoaemljndaa
open Go.ChangeShapes Go.WideShapes Go.ChangeAt Go.RowKit

theorem begin22 : beginR 2 2 = (q4 [] [], 0) := by rfl
theorem q4_findR (x y : List Item) : findR (q4 x y) 1 1 = 3 := by unfold findR; rw [q4_findB]; rfl
theorem q4_small {x y : List Item} (hx : x.length ≤ 12) (hy : y.length ≤ 12) : ∀ q ∈ q4 x y, q.items.length ≤ 1048576 := by
  intro q hq
  simp only [q4, List.mem_cons, List.not_mem_nil, or_false] at hq
  rcases hq with rfl | rfl | rfl | rfl <;> simp <;> omega
theorem one_queue {w W : World} {A : Option Addr} {c : Nat} {a : List Item} (h : IsItems w (.slice A a.length c) a) (hb : Below w.heap.size w W) : IsQueues (W.alloc (.cells #[.int .i64 0, .int .i64 0, .slice A a.length c] 69)) (.slice (some ⟨W.heap.size, 0, none⟩) 1 1) [⟨0, 0, a⟩] := by
  refine ⟨_, _, rfl, Nat.le_refl _, by unfold maxLen; omega, fun k q hk => ?_⟩
  cases k with
  | succ k => simp at hk
  | zero =>
    simp at hk
    subst hk
    exact ⟨W.heap.size, 0, rfl, .slice A a.length c, h.stays itemAt_stays (bel_al hb _), by simp, by simp, by simp⟩

set_option maxRecDepth 100000 in
set_option maxHeartbeats 4000000 in
theorem orders_walk (a : List Item) (va : Value) (b : List Item) (vb : Value) (w : World) (ha : IsItems w va a) (hb : IsItems w vb b) :
    Calls Try.prog 8 #[va, vb] w fun e w' => e = .returned (.bool true) ∧ Below w.heap.size w w' := by
  have HA := Lib.hid ha
  have HB := Lib.hid hb
  obtain ⟨Aa, ca, rfl, hac, hacm, -⟩ := ha
  obtain ⟨Ab, cb, rfl, hbc, hbcm, -⟩ := hb
  obtain ⟨f1, hf1⟩ : ∃ f1, fewItemsB a = f1 := ⟨_, rfl⟩
  obtain ⟨f2, hf2⟩ : ∃ f2, fewItemsB b = f2 := ⟨_, rfl⟩
  by_cases hla : 12 < (a.length : Int)
  · clear hf1 hf2
    go_enter Try.func8, Try.ntmps8
    go_wp2_with (first
      | (go_at_call 13; refine (awake_any _).mono ?_; rintro e w9 ⟨rfl, hb9⟩))
    go_ret
    exact ⟨rfl, hb9⟩
  by_cases hlb : 12 < (b.length : Int)
  · clear hf1 hf2
    go_enter Try.func8, Try.ntmps8
    go_wp2_with (first
      | (go_at_call 13; refine (awake_any _).mono ?_; rintro e w9 ⟨rfl, hb9⟩))
    go_ret
    exact ⟨rfl, hb9⟩
  cases f1 with
  | false =>
    go_enter Try.func8, Try.ntmps8
    go_wp2_with (first
      | (go_at_call 13; refine (awake_any _).mono ?_; rintro e w9 ⟨rfl, hb9⟩)
      | (have _h := hf1; go_at_call 12; refine (fewItems_any a _ _ HA.out).mono ?_; rw [hf1]; rintro e w1 ⟨rfl, rfl⟩; clear hf1 _h))
    go_ret
    exact ⟨rfl, hb9⟩
  | true =>
  cases f2 with
  | false =>
    go_enter Try.func8, Try.ntmps8
    go_wp2_with (first
      | (go_at_call 13; refine (awake_any _).mono ?_; rintro e w9 ⟨rfl, hb9⟩)
      | (have _h := hf1; go_at_call 12; refine (fewItems_any a _ _ HA.out).mono ?_; rw [hf1]; rintro e w1 ⟨rfl, rfl⟩; clear hf1 _h)
      | (have _h := hf2; go_at_call 12; refine (fewItems_any b _ _ HB.out).mono ?_; rw [hf2]; rintro e w1 ⟨rfl, rfl⟩; clear hf2 _h))
    go_ret
    exact ⟨rfl, hb9⟩
  | true =>
  go_enter Try.func8, Try.ntmps8
  go_wp2_with (first
    | (have _h := hf1; go_at_call 12; refine (fewItems_any a _ _ HA.out).mono ?_; rw [hf1]; rintro e w1 ⟨rfl, rfl⟩; clear hf1 _h)
    | (have _h := hf2; go_at_call 12; refine (fewItems_any b _ _ HB.out).mono ?_; rw [hf2]; rintro e w1 ⟨rfl, rfl⟩; clear hf2 _h))
  refine (begin_any 2 2 _).mono ?_
  rw [begin22]
  rintro e w1 ⟨v1, rfl, hq1, hb1⟩
  simp only at hq1
  have HQ1 := Lib.hid hq1
  clear hq1
  obtain ⟨M, hMe⟩ : ∃ M, M = max a.length b.length := ⟨_, rfl⟩
  have hMi : max (a.length : Int) (b.length : Int) = (M : Int) := by omega
  have hMa : a.length ≤ M := by omega
  have hMb : b.length ≤ M := by omega
  have HMab : Hid (M = a.length ∨ M = b.length) := Lib.hid (by omega)
  have hM12 : M ≤ 12 := by omega
  clear hMe
  have HB1 := Lib.hid hb1
  clear hb1
  go_wp2_with fail
  go_loopw [5, 7] (fun v i wr => ∃ k : Nat, k ≤ M ∧ i = .int .i64 k ∧ Hid (IsQueues wr v (q4 (a.take k) (b.take k)) ∧ itemsErr (a.take k) = 0 ∧ itemsErr (b.take k) = 0 ∧ Below w1.heap.size w1 wr)) (fun _ i _ => M - (intOf i).toNat)
  case atStart => exact ⟨0, Nat.zero_le _, rfl, HQ1.out, rfl, rfl, Below.refl _ _⟩
  case round =>
    obtain ⟨k, hk, rfl, HI⟩ := hrel
    have HW := Lib.hid (bel_tr HB1.out HI.out.2.2.2)
    by_cases hlt : k < M
    · have hlt' : (k : Int) < (M : Int) := by omega
      have hc := q4_check HI.out.2.1 HI.out.2.2.1 (by rw [List.length_take]; omega) (by rw [List.length_take]; omega)
      have HC := Lib.hid hc
      clear hc
      have hk6 : (0 : Int) ≤ (k : Int) := by omega
      have hk7 : (k : Int) ≤ (k : Int) + 1 := by omega
      have hwrap : IntKind.i64.wrap ((k : Int) + 1) = (k : Int) + 1 := IntWalk.i64_in _ (by omega)
      by_cases hak : k < a.length
      · have HAG := Lib.hid (List.getElem?_eq_getElem hak)
        obtain ⟨xa, hxa⟩ : ∃ x, x = a[k] := ⟨_, rfl⟩
        rw [← hxa] at HAG
        clear hxa
        obtain ⟨_, _, hva, -, -, hata⟩ := HA.out
        injection hva with e1 _ e3
        subst e1 e3
        obtain ⟨ba, oa, rfl, -⟩ := hata k xa HAG.out
        clear hata
        have ha1 : (k : Int) < (a.length : Int) := by omega
        have ha2 : (k : Int) + 1 ≤ (a.length : Int) := by omega
        have ha3 : (k : Int) + 1 ≤ (ca : Int) := by omega
        have ha4 : k + 1 ≤ ca := by omega
        have ha5 : ca - k ≠ 0 := by omega
        have HSM := Lib.hid (q4_small (x := a.take k) (y := b.take k) (by rw [List.length_take]; omega) (by rw [List.length_take]; omega))
        obtain ⟨ea, hea⟩ : ∃ e, itemErr xa = e := ⟨_, rfl⟩
        by_cases h0 : ea = 0
        · have g0 : (ea != 0) = false := by simpa using h0
          have hia : itemErr xa = 0 := hea.trans h0
          have HSA : Hid (sendR (q4 (a.take k) (b.take k)) 0 1 [xa] = (q4 (a.take (k + 1)) (b.take k), 0)) := Lib.hid (by rw [q4_sendA HC.out (by rw [List.length_take]; omega) hia, take_snoc' HAG.out])
          have HIA : Hid (itemsErr (a.take (k + 1)) = 0) := Lib.hid (by rw [take_snoc' HAG.out]; exact itemsErr_app0 HI.out.2.1 (by rw [itemsErr_one]; exact hia))
          clear hea h0 hia g0
          by_cases hbk : k < b.length
          · have HC2 := Lib.hid (q4_check HIA.out HI.out.2.2.1 (by rw [List.length_take]; omega) (by rw [List.length_take]; omega))
            have HSM2 := Lib.hid (q4_small (x := a.take (k + 1)) (y := b.take k) (by rw [List.length_take]; omega) (by rw [List.length_take]; omega))
            have HBG := Lib.hid (List.getElem?_eq_getElem hbk)
            obtain ⟨xb, hxb⟩ : ∃ x, x = b[k] := ⟨_, rfl⟩
            rw [← hxb] at HBG
            clear hxb
            obtain ⟨_, _, hvb, -, -, hatb⟩ := HB.out
            injection hvb with e1 _ e3
            subst e1 e3
            obtain ⟨bb, ob, rfl, -⟩ := hatb k xb HBG.out
            clear hatb
            have hb1 : (k : Int) < (b.length : Int) := by omega
            have hb2 : (k : Int) + 1 ≤ (b.length : Int) := by omega
            have hb3 : (k : Int) + 1 ≤ (cb : Int) := by omega
            have hb4 : k + 1 ≤ cb := by omega
            have hb5 : cb - k ≠ 0 := by omega
            obtain ⟨eb, heb⟩ : ∃ e, itemErr xb = e := ⟨_, rfl⟩
            by_cases h0 : eb = 0
            · have hib : itemErr xb = 0 := heb.trans h0
              have HSB : Hid (sendR (q4 (a.take (k + 1)) (b.take k)) 1 1 [xb] = (q4 (a.take (k + 1)) (b.take (k + 1)), 0)) := Lib.hid (by rw [q4_sendB HC2.out (by rw [List.length_take]; omega) hib, take_snoc' HBG.out])
              have HIB : Hid (itemsErr (b.take (k + 1)) = 0) := Lib.hid (by rw [take_snoc' HBG.out]; exact itemsErr_app0 HI.out.2.2.1 (by rw [itemsErr_one]; exact hib))
              clear heb h0 hib
              go_wp2_with (first
                | (have _h := HSA; go_at_call 14; refine (send_any (q4 (a.take k) (b.take k)) _ 0 1 [xa] _ _ HI.out.1 (one_at (HA.out.stays itemAt_stays HW.out) HAG.out) (by simp [q4]) HSM.out (by simp)).mono ?_; rw [HSA.out]; rintro e w2 ⟨v2, rfl, hq2, hb2⟩; simp only at hq2; have HQ2 := Lib.hid hq2; clear hq2 HSA _h)
                | (have _h := HSB; go_at_call 14; refine (send_any (q4 (a.take (k + 1)) (b.take k)) _ 1 1 [xb] _ _ HQ2.out (one_at (HB.out.stays itemAt_stays (bel_tr HW.out hb2)) HBG.out) (by simp [q4]) HSM2.out (by simp)).mono ?_; rw [HSB.out]; rintro e w3 ⟨v3, rfl, hq3, hb3⟩; simp only at hq3; have HQ3 := Lib.hid hq3; clear hq3 HSB _h))
              go_roundw
              case rel => exact ⟨k + 1, by omega, by go_num, HQ3.out, HIA.out, HIB.out, bel_tr HI.out.2.2.2 (bel_tr hb2 hb3)⟩
              case measure => simp [intOf]; omega
            · have g0 : (eb != 0) = true := by simpa using h0
              have HSB : Hid (sendR (q4 (a.take (k + 1)) (b.take k)) 1 1 [xb] = ([], eb)) := Lib.hid (by rw [q4_noB HC2.out (by rw [heb]; exact h0), heb])
              have hbad := one_check (itemsErr_mem (List.mem_of_getElem? HBG.out) (by rw [heb]; exact h0))
              obtain ⟨en, hen⟩ : ∃ e, checkErr [⟨0, 0, b⟩] = e := ⟨_, rfl⟩
              have gn : (en != 0) = true := by rw [hen] at hbad; simpa using hbad
              have HEN := Lib.hid hen
              clear heb h0 hbad hen
              go_wp2_with (first
                | (have _h := HSA; go_at_call 14; refine (send_any (q4 (a.take k) (b.take k)) _ 0 1 [xa] _ _ HI.out.1 (one_at (HA.out.stays itemAt_stays HW.out) HAG.out) (by simp [q4]) HSM.out (by simp)).mono ?_; rw [HSA.out]; rintro e w2 ⟨v2, rfl, hq2, hb2⟩; simp only at hq2; have HQ2 := Lib.hid hq2; clear hq2 HSA _h)
                | (have _h := HSB; go_at_call 14; refine (send_any (q4 (a.take (k + 1)) (b.take k)) _ 1 1 [xb] _ _ HQ2.out (one_at (HB.out.stays itemAt_stays (bel_tr HW.out hb2)) HBG.out) (by simp [q4]) HSM2.out (by simp)).mono ?_; rw [HSB.out]; rintro e w3 ⟨v3, rfl, hq3, hb3⟩; simp only at hq3; have HQ3 := Lib.hid hq3; clear hq3 HSB _h)
                | (go_at_call 13; refine (awake_any _).mono ?_; rintro e w9 ⟨rfl, hb9⟩)
                | (go_at_call 19; refine (check_any [⟨0, 0, b⟩] _ _ (one_queue HB.out (bel_tr (bel_tr (bel_tr HW.out hb2) hb3) hb9))).mono ?_; rw [HEN.out]; rintro e w8 ⟨rfl, hb8⟩))
              go_ret
              exact ⟨by simp, bel_tr (bel_tr (bel_tr (bel_tr HW.out hb2) hb3) (bel_al hb9 _)) hb8⟩
          · have hbk' : ¬ (k : Int) < (b.length : Int) := by omega
            have htb : b.take (k + 1) = b.take k := by rw [List.take_of_length_le (by omega), List.take_of_length_le (by omega)]
            have HTB := Lib.hid htb
            clear htb
            go_wp2_with (have _h := HSA; go_at_call 14; refine (send_any (q4 (a.take k) (b.take k)) _ 0 1 [xa] _ _ HI.out.1 (one_at (HA.out.stays itemAt_stays HW.out) HAG.out) (by simp [q4]) HSM.out (by simp)).mono ?_; rw [HSA.out]; rintro e w2 ⟨v2, rfl, hq2, hb2⟩; simp only at hq2; have HQ2 := Lib.hid hq2; clear hq2 HSA _h)
            go_roundw
            case rel => exact ⟨k + 1, by omega, by go_num, by rw [HTB.out]; exact HQ2.out, HIA.out, by rw [HTB.out]; exact HI.out.2.2.1, bel_tr HI.out.2.2.2 hb2⟩
            case measure => simp [intOf]; omega
        · have g0 : (ea != 0) = true := by simpa using h0
          have HSA : Hid (sendR (q4 (a.take k) (b.take k)) 0 1 [xa] = ([], ea)) := Lib.hid (by rw [q4_noA HC.out (by rw [hea]; exact h0), hea])
          have hbad := one_check (itemsErr_mem (List.mem_of_getElem? HAG.out) (by rw [hea]; exact h0))
          obtain ⟨en, hen⟩ : ∃ e, checkErr [⟨0, 0, a⟩] = e := ⟨_, rfl⟩
          have gn : (en != 0) = true := by rw [hen] at hbad; simpa using hbad
          have HEN := Lib.hid hen
          clear hea h0 hbad hen
          go_wp2_with (first
            | (have _h := HSA; go_at_call 14; refine (send_any (q4 (a.take k) (b.take k)) _ 0 1 [xa] _ _ HI.out.1 (one_at (HA.out.stays itemAt_stays HW.out) HAG.out) (by simp [q4]) HSM.out (by simp)).mono ?_; rw [HSA.out]; rintro e w2 ⟨v2, rfl, hq2, hb2⟩; simp only at hq2; have HQ2 := Lib.hid hq2; clear hq2 HSA _h)
            | (go_at_call 13; refine (awake_any _).mono ?_; rintro e w9 ⟨rfl, hb9⟩)
            | (go_at_call 19; refine (check_any [⟨0, 0, a⟩] _ _ (one_queue HA.out (bel_tr (bel_tr HW.out hb2) hb9))).mono ?_; rw [HEN.out]; rintro e w8 ⟨rfl, hb8⟩))
          go_ret
          exact ⟨by simp, bel_tr (bel_tr (bel_tr HW.out hb2) (bel_al hb9 _)) hb8⟩
      · have hak' : ¬ (k : Int) < (a.length : Int) := by omega
        have hbk : k < b.length := by have := HMab.out; omega
        have hta : a.take (k + 1) = a.take k := by rw [List.take_of_length_le (by omega), List.take_of_length_le (by omega)]
        have HTA := Lib.hid hta
        clear hta
        have HSM := Lib.hid (q4_small (x := a.take k) (y := b.take k) (by rw [List.length_take]; omega) (by rw [List.length_take]; omega))
        have HBG := Lib.hid (List.getElem?_eq_getElem hbk)
        obtain ⟨xb, hxb⟩ : ∃ x, x = b[k] := ⟨_, rfl⟩
        rw [← hxb] at HBG
        clear hxb
        obtain ⟨_, _, hvb, -, -, hatb⟩ := HB.out
        injection hvb with e1 _ e3
        subst e1 e3
        obtain ⟨bb, ob, rfl, -⟩ := hatb k xb HBG.out
        clear hatb
        have hb1 : (k : Int) < (b.length : Int) := by omega
        have hb2 : (k : Int) + 1 ≤ (b.length : Int) := by omega
        have hb3 : (k : Int) + 1 ≤ (cb : Int) := by omega
        have hb4 : k + 1 ≤ cb := by omega
        have hb5 : cb - k ≠ 0 := by omega
        obtain ⟨eb, heb⟩ : ∃ e, itemErr xb = e := ⟨_, rfl⟩
        by_cases h0 : eb = 0
        · have hib : itemErr xb = 0 := heb.trans h0
          have HSB : Hid (sendR (q4 (a.take k) (b.take k)) 1 1 [xb] = (q4 (a.take k) (b.take (k + 1)), 0)) := Lib.hid (by rw [q4_sendB HC.out (by rw [List.length_take]; omega) hib, take_snoc' HBG.out])
          have HIB : Hid (itemsErr (b.take (k + 1)) = 0) := Lib.hid (by rw [take_snoc' HBG.out]; exact itemsErr_app0 HI.out.2.2.1 (by rw [itemsErr_one]; exact hib))
          clear heb h0 hib
          go_wp2_with (have _h := HSB; go_at_call 14; refine (send_any (q4 (a.take k) (b.take k)) _ 1 1 [xb] _ _ HI.out.1 (one_at (HB.out.stays itemAt_stays HW.out) HBG.out) (by simp [q4]) HSM.out (by simp)).mono ?_; rw [HSB.out]; rintro e w3 ⟨v3, rfl, hq3, hb3⟩; simp only at hq3; have HQ3 := Lib.hid hq3; clear hq3 HSB _h)
          go_roundw
          case rel => exact ⟨k + 1, by omega, by go_num, by rw [HTA.out]; exact HQ3.out, by rw [HTA.out]; exact HI.out.2.1, HIB.out, bel_tr HI.out.2.2.2 hb3⟩
          case measure => simp [intOf]; omega
        · have g0 : (eb != 0) = true := by simpa using h0
          have HSB : Hid (sendR (q4 (a.take k) (b.take k)) 1 1 [xb] = ([], eb)) := Lib.hid (by rw [q4_noB HC.out (by rw [heb]; exact h0), heb])
          have hbad := one_check (itemsErr_mem (List.mem_of_getElem? HBG.out) (by rw [heb]; exact h0))
          obtain ⟨en, hen⟩ : ∃ e, checkErr [⟨0, 0, b⟩] = e := ⟨_, rfl⟩
          have gn : (en != 0) = true := by rw [hen] at hbad; simpa using hbad
          have HEN := Lib.hid hen
          clear heb h0 hbad hen
          go_wp2_with (first
            | (have _h := HSB; go_at_call 14; refine (send_any (q4 (a.take k) (b.take k)) _ 1 1 [xb] _ _ HI.out.1 (one_at (HB.out.stays itemAt_stays HW.out) HBG.out) (by simp [q4]) HSM.out (by simp)).mono ?_; rw [HSB.out]; rintro e w3 ⟨v3, rfl, hq3, hb3⟩; simp only at hq3; have HQ3 := Lib.hid hq3; clear hq3 HSB _h)
            | (go_at_call 13; refine (awake_any _).mono ?_; rintro e w9 ⟨rfl, hb9⟩)
            | (go_at_call 19; refine (check_any [⟨0, 0, b⟩] _ _ (one_queue HB.out (bel_tr (bel_tr HW.out hb3) hb9))).mono ?_; rw [HEN.out]; rintro e w8 ⟨rfl, hb8⟩))
          go_ret
          exact ⟨by simp, bel_tr (bel_tr (bel_tr HW.out hb3) (bel_al hb9 _)) hb8⟩
    · obtain rfl : k = M := by omega
      have hst := HI.out
      rw [List.take_of_length_le hMa, List.take_of_length_le hMb] at hst
      have HS := Lib.hid hst
      clear hst HI HW
      go_wp2_with fail
      go_loopw [5, 12] (fun v i wr => ∃ j : Nat, j ≤ a.length ∧ i = .int .i64 j ∧ Hid (IsQueues wr v (q4 (a.drop j) b) ∧ Below w1.heap.size w1 wr)) (fun _ i _ => a.length - (intOf i).toNat)
      case atStart => exact ⟨0, Nat.zero_le _, rfl, HS.out.1, HS.out.2.2.2⟩
      case round =>
        obtain ⟨j, hj, rfl, HI⟩ := hrel
        have HW := Lib.hid (bel_tr HB1.out HI.out.2)
        have HC := Lib.hid (q4_check (x := a.drop j) (y := b) (itemsErr_right (a := a.take j) (by rw [List.take_append_drop]; exact HS.out.2.1)) HS.out.2.2.1 (by rw [List.length_drop]; omega) (by omega))
        have HSM := Lib.hid (q4_small (x := a.drop j) (y := b) (by rw [List.length_drop]; omega) (by omega))
        by_cases hlt : j < a.length
        · have hlt' : (j : Int) < (a.length : Int) := by omega
          have HG := Lib.hid (List.getElem?_eq_getElem hlt)
          have HD := Lib.hid (List.drop_eq_getElem_cons hlt)
          obtain ⟨x, hx⟩ : ∃ x, x = a[j] := ⟨_, rfl⟩
          rw [← hx] at HG HD
          clear hx
          have HR : Hid (receiveR (q4 (a.drop j) b) 0 1 = (q4 (a.drop (j + 1)) b, x, 0)) := Lib.hid (by have h := HC.out; rw [HD.out] at h ⊢; exact q4_recv h)
          obtain ⟨_, _, hva, -, -, hata⟩ := HA.out
          injection hva with e1 _ e3
          subst e1 e3
          obtain ⟨ba, oa, rfl, v6, hv6, d0, d1, d2, d3, d4, d5, d6⟩ := hata j x HG.out
          have HV := Lib.hid hv6
          obtain ⟨A6, c6, rfl, -⟩ := hv6
          clear hata
          go_wp2_with fail
          refine (receive_any (q4 (a.drop j) b) _ 0 1 _ HI.out.1 (by simp [q4]) HSM.out).mono ?_
          rw [HR.out]
          rintro e w3 ⟨v3, u3, rfl, hq3, hu3, hb3⟩
          simp only at hq3 hu3
          obtain ⟨B3, d3', rfl, -⟩ := id hu3
          have HQ3 := Lib.hid hq3
          have HU3 := Lib.hid hu3
          clear hq3 hu3
          have HB3 := Lib.hid (bel_tr HW.out hb3)
          replace d0 := cell_stays HB3.out d0
          replace d1 := cell_stays HB3.out d1
          replace d2 := cell_stays HB3.out d2
          replace d3 := cell_stays HB3.out d3
          replace d4 := cell_stays HB3.out d4
          replace d5 := cell_stays HB3.out d5
          replace d6 := cell_stays HB3.out d6
          have k4 := World.block_lt_of_cell? w3 _ d0
          simp only at k4
          unfold itemV
          go_wp2_with fail
          refine wp_region_F (fun W => W.cell? ⟨w3.heap.size, 0, none⟩ = some (.int .i64 x.kind) ∧ W.cell? ⟨w3.heap.size, 1, none⟩ = some (.int .i64 x.source) ∧ W.cell? ⟨w3.heap.size, 2, none⟩ = some (.int .i64 x.seq) ∧ W.cell? ⟨w3.heap.size, 3, none⟩ = some (.int .i64 x.type) ∧ W.cell? ⟨w3.heap.size, 4, none⟩ = some (.int .i64 x.time) ∧ W.cell? ⟨w3.heap.size, 5, none⟩ = some (.slice B3 x.values.length d3') ∧ W.cell? ⟨w3.heap.size, 6, none⟩ = some (.int .i64 x.number) ∧ W.cell? ⟨ba, oa + j * 7, none⟩ = some (.int .i64 x.kind) ∧ W.cell? ⟨ba, oa + j * 7 + 1, none⟩ = some (.int .i64 x.source) ∧ W.cell? ⟨ba, oa + j * 7 + 2, none⟩ = some (.int .i64 x.seq) ∧ W.cell? ⟨ba, oa + j * 7 + 3, none⟩ = some (.int .i64 x.type) ∧ W.cell? ⟨ba, oa + j * 7 + 4, none⟩ = some (.int .i64 x.time) ∧ W.cell? ⟨ba, oa + j * 7 + 5, none⟩ = some (.slice A6 x.values.length c6) ∧ W.cell? ⟨ba, oa + j * 7 + 6, none⟩ = some (.int .i64 x.number)) (by repeat (first | exact grows_cell _ _ _ | exact grows_true | refine grows_and ?_ ?_)) (by kernel_rfl) (by kernel_rfl) ?hF ?_; (case hF => (first | exact ⟨‹_›, ‹_›⟩ | (go_simp; done) | (simp [*]; done))); intro hne hxx; have hG : Hid (Grows (fun W => W.cell? ⟨w3.heap.size, 0, none⟩ = some (.int .i64 x.kind) ∧ W.cell? ⟨w3.heap.size, 1, none⟩ = some (.int .i64 x.source) ∧ W.cell? ⟨w3.heap.size, 2, none⟩ = some (.int .i64 x.seq) ∧ W.cell? ⟨w3.heap.size, 3, none⟩ = some (.int .i64 x.type) ∧ W.cell? ⟨w3.heap.size, 4, none⟩ = some (.int .i64 x.time) ∧ W.cell? ⟨w3.heap.size, 5, none⟩ = some (.slice B3 x.values.length d3') ∧ W.cell? ⟨w3.heap.size, 6, none⟩ = some (.int .i64 x.number) ∧ W.cell? ⟨ba, oa + j * 7, none⟩ = some (.int .i64 x.kind) ∧ W.cell? ⟨ba, oa + j * 7 + 1, none⟩ = some (.int .i64 x.source) ∧ W.cell? ⟨ba, oa + j * 7 + 2, none⟩ = some (.int .i64 x.seq) ∧ W.cell? ⟨ba, oa + j * 7 + 3, none⟩ = some (.int .i64 x.type) ∧ W.cell? ⟨ba, oa + j * 7 + 4, none⟩ = some (.int .i64 x.time) ∧ W.cell? ⟨ba, oa + j * 7 + 5, none⟩ = some (.slice A6 x.values.length c6) ∧ W.cell? ⟨ba, oa + j * 7 + 6, none⟩ = some (.int .i64 x.number))) := (by repeat (first | exact grows_cell _ _ _ | exact grows_true | refine grows_and ?_ ?_)); (repeat (go_big_quiet_step ((go_at_call 27; exact cls_callB hG (fun W hW => sameItem_eq x _ _ W (HU3.out.stays valAt_stays (bel_tr (bel_one _ _) hW)) (HV.out.stays valAt_stays (bel_tr (bel_al HB3.out _) hW))))))); clear hG hxx hne; refine wpQuiet_nil ?_; rintro _ ⟨⟨w', hb', hF'⟩, rfl⟩
          clear hF'
          go_wp2_with fail
          go_roundw
          case rel => exact ⟨j + 1, by omega, by go_num, HQ3.out.stays queueAt_stays (bel_tr (bel_one _ _) hb'), bel_tr HI.out.2 (bel_tr hb3 (bel_tr (bel_one _ _) hb'))⟩
          case measure => simp [intOf]; omega
        · obtain rfl : j = a.length := by omega
          have HD : Hid (a.drop a.length = []) := Lib.hid (List.drop_of_length_le (Nat.le_refl _))
          have HR : Hid (receiveR (q4 (a.drop a.length) b) 0 1 = ([], zeroItem, 20)) := Lib.hid (by have h := HC.out; rw [HD.out] at h ⊢; exact q4_gap h)
          have hqs := HI.out.1
          obtain ⟨Aq, cq, rfl, -⟩ := id hqs
          obtain ⟨bq, oq, uq, rfl, -, huq, p0, p1, p2⟩ := cell_of_queues hqs (rfl : (q4 (a.drop a.length) b)[3]? = some ⟨1, 1, b⟩)
          have HUQ := Lib.hid huq
          obtain ⟨Au, cu, rfl, -⟩ := huq
          have HQS := Lib.hid hqs
          clear hqs p0 p1
          simp only at p2 HUQ
          have hq40 : (q4 (a.drop a.length) b).length = 4 := rfl
          have hq41 : (q4 [] b).length = 4 := rfl
          go_wp2_with (first
            | (go_at_call 23; refine (receive_any (q4 (a.drop a.length) b) _ 0 1 _ HI.out.1 (by simp [q4]) HSM.out).mono ?_; rw [HR.out]; rintro e w3 ⟨v3, u3, rfl, hq3, hu3, hb3⟩; simp only at hq3 hu3; obtain ⟨B3, d3', rfl, -⟩ := hu3; clear hq3; replace p2 := cell_stays hb3 p2; unfold itemV)
            | (go_at_call 33; refine (rfind_any (q4 (a.drop a.length) b) _ 1 1 _ (HQS.out.stays queueAt_stays hb3)).mono ?_; rw [q4_findR]; rintro e w4 ⟨rfl, rfl⟩)
            | (go_at_call 13; refine (awake_any _).mono ?_; rintro e w5 ⟨rfl, hb5⟩; replace p2 := cell_stays hb5 p2; have k2 := World.block_lt_of_cell? w5 _ p2; simp only at k2)
            | (go_at_call 32; refine (sameItems_eq b _ _ _ (HUQ.out.stays itemAt_stays (bel_tr hb3 hb5)) (HB.out.stays itemAt_stays (bel_tr (bel_tr HW.out hb3) hb5))).mono ?_; rintro e w6 ⟨rfl, hb6⟩))
          go_ret
          exact ⟨by simp, bel_tr (bel_tr (bel_tr HW.out hb3) hb5) hb6⟩

set_option maxRecDepth 100000 in
theorem orders_lifted (os : Os) (started : os.Started) (H : Type) (enc : TypeId × Value → H) :
    ReturnsInHanded {} Try.checked os 8 .any (Rows.channelOrdersSpec.pre6 enc Try.prog Try.f8 Rows.channelOrdersRow.domain false) (Rows.channelOrdersSpec.post enc Try.prog Try.f8 false true false false) := by
  refine returnsInHanded_of_change (C := Try.checked) own_none started (by kernel_rfl) Try.func8
    (ChangeSpec.witness6 (enc := enc) (C := Try.checked) false ⟨#[], #[.slice none 0 0, .slice none 0 0], []⟩ 8 (by kernel_rfl) (by kernel_rfl) (by kernel_rfl) (by kernel_rfl)) ?_
  intro W base args ds gs before hval0 hW hcnd _
  have hval : ∀ (j : Nat) t v, Try.f8.params[j]? = some t → args[j]? = some v → Value.okWide Try.prog W .any base t v := hval0
  have hW' := hW
  obtain ⟨p, q, hA0, hV, rfl, hfz, hnd⟩ := hW
  have hA : DataW.TrodAll enc Try.prog W 0 (fun _ => true) true Try.f8.params.toList args.toList ds p := hA0
  rw [Try.params8] at hA hval
  obtain ⟨v0, vs0, d0, ds0, p0, q0, hargs, rfl, rfl, h0, r0⟩ := trodAll_cons hA
  obtain ⟨v1, vs1, d1, ds1, p1, q1, rfl, rfl, rfl, h1, r1⟩ := trodAll_cons r0
  obtain ⟨rfl, rfl, rfl⟩ := trodAll_nil r1
  obtain rfl : args = #[v0, v1] := by cases args; simp_all
  obtain ⟨rfl, rfl⟩ := trodVars_none hV
  have k0 := h0
  have lt0 : ∀ x ∈ p0, x.block < W.heap.size := by obtain ⟨m, hm⟩ := k0; exact DataW.trod_lt m _ _ _ hm
  obtain ⟨s0, len0, cap0, rfl⟩ := okWide_slice Try.underlying24 (hval 0 24 v0 rfl rfl)
  obtain ⟨l0, w0⟩ : ∃ l, IsItems W (.slice s0 len0 cap0) l := by obtain ⟨fuel, hf⟩ := h0; exact read_items (v := .slice s0 len0 cap0) hf
  have k1 := h1
  have lt1 : ∀ x ∈ p1, x.block < W.heap.size := by obtain ⟨m, hm⟩ := k1; exact DataW.trod_lt m _ _ _ hm
  obtain ⟨s1, len1, cap1, rfl⟩ := okWide_slice Try.underlying24 (hval 1 24 v1 rfl rfl)
  obtain ⟨l1, w1⟩ : ∃ l, IsItems W (.slice s1 len1 cap1) l := by obtain ⟨fuel, hf⟩ := h1; exact read_items (v := .slice s1 len1 cap1) hf
  clear hA0 hval0
  refine (orders_walk l0 _ l1 _ W w0 w1).mono fun e W' ⟨he, bel⟩ => ?_
  subst he
  exact ⟨_, rfl, _, _, _, [], _, [], hW', trodAll_mk1 (shut_bool Try.underlying4 _), (trodAll_cons_mk (Below.trod laid_out (by kernel_rfl) (of_decide_eq_true (by kernel_rfl)) k0 bel lt0) (trodAll_cons_mk (Below.trod laid_out (by kernel_rfl) (of_decide_eq_true (by kernel_rfl)) k1 bel lt1) trodAll_mk0)), rfl, bel.frame _, fun h => by cases h⟩

theorem orders_over : Rows.channelOrdersRow.holds Try.pinned (OpenSpec.ofChange Rows.channelOrdersSpec) :=
  OpenClaim.holds_of_wide 8 Try.f8 rfl rfl rfl rfl rfl rfl rfl ⟨rfl, rfl, rfl, rfl, rfl⟩ rfl rfl rfl rfl rfl (by kernel_rfl) Try.func8 (by kernel_rfl)
    (of_decide_eq_true (by kernel_rfl)) (by unfold Func.isWrapper; first | (rw [if_pos (by decide +kernel)]; kernel_rfl) | (rw [if_neg (by decide +kernel)]; exact ⟨rfl, rfl⟩))
    (fun os started H enc _ => orders_lifted os started H enc)

theorem orders_holds : Rows.ChannelOrdersSaid := orders_over
#print axioms orders_holds
end Go.Proofs.Yteonfoaemljndaa
