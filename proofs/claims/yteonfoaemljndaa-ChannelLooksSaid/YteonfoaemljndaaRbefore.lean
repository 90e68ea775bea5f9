/- Before, as the reference does it. -/
import Derived.Test.YteonfoaemljndaaBefore
namespace Go.Proofs.Yteonfoaemljndaa
open Go.RowKit

set_option maxRecDepth 100000 in
set_option maxHeartbeats 1000000 in
theorem rbefore_any (l : List Queue) (v : Value) (f t : Int) (w : World) (hl : IsQueues w v l) :
    Calls Try.prog 29 #[v, .int .i64 f, .int .i64 t] w (BeforeRet w (beforeR l f t)) := by
  have HL := Lib.hid hl
  obtain ⟨A, c, rfl, -⟩ := hl
  by_cases hf : (foundR l f t).2 = 0
  · obtain ⟨i, q, hfi, hc0, hfq, hq⟩ := found_ok hf
    have HF := Lib.hid hfi
    have HQ := Lib.hid hq
    have hil := (List.getElem?_eq_some_iff.1 hq).1
    have hil' : (i : Int) < (l.length : Int) := by omega
    clear hf hfi hc0 hfq hq
    obtain ⟨b, o, u, rfl, -, hu, c0, c1, c2⟩ := cell_of_queues HL.out HQ.out
    have HU := Lib.hid hu
    obtain ⟨Au, cu, rfl, hcu1, hcu2, hat⟩ := hu
    have HAT := Lib.hid hat
    have hn := len_i64 hcu1 hcu2
    clear hat
    go_enter Try.func29, Try.ntmps29
    go_wp2_with (go_at_call 39; refine (found_at HL.out HF.out).mono ?_; rintro e w1 ⟨rfl, hb1⟩; replace c0 := cell_stays hb1 c0; replace c1 := cell_stays hb1 c1; replace c2 := cell_stays hb1 c2)
    go_loopw [11] (fun i wr => ∃ k : Nat, k ≤ q.items.length ∧ i = .int .i64 k ∧ Hid (∀ (j : Nat) (y : Item), q.items[j]? = some y → j < k → isBar y = false) ∧ wr = w1) (fun i _ => q.items.length - (intOf i).toNat)
    case atStart => exact ⟨0, Nat.zero_le _, rfl, fun _ _ _ h => absurd h (by omega), rfl⟩
    case round =>
      obtain ⟨k, hk, rfl, hi, rfl⟩ := hrel
      by_cases hlt : k < q.items.length
      · obtain ⟨b2, o2, rfl, v2, hv2, d0, d1, d2, d3, d4, d5, d6⟩ := HAT.out k q.items[k] (List.getElem?_eq_getElem hlt)
        replace d0 := cell_stays hb1 d0
        replace d6 := cell_stays hb1 d6
        have hget := Lib.hid (List.getElem?_eq_getElem hlt)
        obtain ⟨x, hx⟩ : ∃ x, x = q.items[k] := ⟨_, rfl⟩
        rw [← hx] at d0 d6 hget
        clear hx d1 d2 d3 d4 d5 hv2
        have hk1 : (k : Int) < (q.items.length : Int) := by omega
        have hk2 : (k : Int) ≤ (cu : Int) := by omega
        obtain ⟨bb, hbb⟩ : ∃ bb, isBar x = bb := ⟨_, rfl⟩
        have HB := Lib.hid hbb
        unfold isBar at hbb
        cases bb with
        | true =>
          have HR := Lib.hid (beforeR_some HF.out HQ.out (barIdx_some hget.out HB.out hi) hget.out)
          go_wp2
          refine wp_region_F (fun W => W.cell? ⟨b, o + i * 3 + 2, none⟩ = some (.slice (some ⟨b2, o2, none⟩) q.items.length cu) ∧ W.cell? ⟨b2, o2 + k * 7 + 6, none⟩ = some (.int .i64 x.number)) (by repeat (first | exact grows_cell _ _ _ | exact grows_true | refine grows_and ?_ ?_)) (by kernel_rfl) (by kernel_rfl) ?hF ?_; (case hF => (first | exact ⟨‹_›, ‹_›⟩ | (go_simp; done) | (simp [*]; done))); intro hne hxx; have hG : Hid (Grows (fun W => W.cell? ⟨b, o + i * 3 + 2, none⟩ = some (.slice (some ⟨b2, o2, none⟩) q.items.length cu) ∧ W.cell? ⟨b2, o2 + k * 7 + 6, none⟩ = some (.int .i64 x.number))) := (by repeat (first | exact grows_cell _ _ _ | exact grows_true | refine grows_and ?_ ?_)); (repeat (go_big_quiet_step (fail))); clear hG hxx hne; refine wpQuiet_nil ?_; rintro _ ⟨⟨w', hb', hF'⟩, rfl⟩
          clear hF'
          go_wp2
          go_ret3
          rw [HR.out]
          exact ⟨_, rfl, (take_items HU.out (by omega)).stays itemAt_stays (bel_tr hb1 hb'), bel_tr hb1 hb'⟩
        | false =>
          go_wp2
          go_roundw
          case rel =>
            refine ⟨k + 1, by omega, by go_num, ?_, trivial⟩
            intro j y hj hjk
            rcases Nat.lt_or_eq_of_le (Nat.le_of_lt_succ hjk) with h | h
            · exact hi j y hj h
            · subst h; rw [hget.out] at hj; injection hj with hj; subst hj; exact HB.out
          case measure => simp [intOf]; omega
      · have HR := Lib.hid (beforeR_none HF.out HQ.out (barIdx_none fun j p hj => hi j p hj (by have := (List.getElem?_eq_some_iff.1 hj).1; omega)))
        go_wp2
        go_ret3
        rw [HR.out]
        exact ⟨_, rfl, HU.out.stays itemAt_stays hb1, hb1⟩
  · obtain ⟨y, hy⟩ : ∃ y, y = (foundR l f t).2 := ⟨_, rfl⟩
    have hfy : foundR l f t = (0, y) := Prod.ext (found_no hf) hy.symm
    have HR := Lib.hid (beforeR_no hf)
    have g2 : (y != 0) = true := by rw [hy]; simpa using hf
    have HF := Lib.hid hfy
    have HY := Lib.hid hy
    clear hy hfy hf
    go_enter Try.func29, Try.ntmps29
    go_wp2_with (go_at_call 39; refine (found_at HL.out HF.out).mono ?_; rintro e w1 ⟨rfl, hb1⟩)
    go_ret3
    rw [HR.out, ← HY.out]
    exact ⟨_, rfl, Sl.nil _ _ _ _ _ (Nat.zero_le _), hb1⟩
end Go.Proofs.Yteonfoaemljndaa
