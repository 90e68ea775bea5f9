/- ref.SameChanges, ref17.Same. -/
import Derived.Test.YtlofjcicpkfcdaaGreatDoorLsame
import Derived.Test.YtlofjcicpkfcdaaGreatDoorLref
namespace Go.Proofs.YtlofjcicpkfcdaaGreatDoor
open Go.RowKit

set_option maxRecDepth 100000 in
set_option maxHeartbeats 2000000 in
theorem rsameC_any (l m : List Chg) (v1 v2 : Value) (w : World) (h1 : IsChgs w v1 l) (h2 : IsChgs w v2 m) :
    Calls Tryz.prog 20 #[v1, v2] w fun e w' => e = .returned (.bool (decide (l = m))) ∧ Below w.heap.size w w' := by
  obtain ⟨A1, c1, rfl, l1, m1, a1⟩ := h1
  obtain ⟨A2, c2, rfl, l2, m2, a2⟩ := h2
  have hn := len_i64 l1 m1
  have hn2 := len_i64 l2 m2
  have HA1 := Lib.hid a1
  have HA2 := Lib.hid a2
  clear a1 a2 l1 l2 m1 m2
  by_cases hne : l.length = m.length
  case neg =>
    have hd : decide (l = m) = false := by simp; intro h; exact hne (by rw [h])
    have hne' : ((l.length : Int) != (m.length : Int)) = true := by simp; omega
    rw [hd]
    clear hd hne
    go_enter Tryz.func20, Tryz.ntmps20
    go_wp2
    go_ret
    exact ⟨rfl, Below.refl _ _⟩
  have hne' : ((l.length : Int) != (m.length : Int)) = false := by simp; omega
  obtain ⟨r, hr⟩ : ∃ r, decide (l = m) = r := ⟨_, rfl⟩
  rw [hr]
  have HR := Lib.hid hr
  have HNE := Lib.hid hne
  clear hr hne
  go_enter Tryz.func20, Tryz.ntmps20
  go_wp2_with fail
  go_loopw [5] (fun i wr => ∃ k : Nat, k ≤ l.length ∧ i = .int .i64 k ∧ Hid (∀ (j : Nat) (x y : Chg), l[j]? = some x → m[j]? = some y → j < k → x = y) ∧ Below w.heap.size w wr) (fun i _ => l.length - (intOf i).toNat)
  case atStart => exact ⟨0, Nat.zero_le _, rfl, Lib.hid (fun _ _ _ _ _ h => absurd h (by omega)), Below.refl _ _⟩
  case round =>
    obtain ⟨k, hk, rfl, hi, hb⟩ := hrel
    by_cases hlt : k < l.length
    · have hk' : (k : Int) < (l.length : Int) := by omega
      have hkm : k < m.length := by have := HNE.out; omega
      have hk2 : (k : Int) < (m.length : Int) := by omega
      obtain ⟨b1, o1, rfl, u1, hu1, p0, p1, p2⟩ := HA1.out k l[k] (List.getElem?_eq_getElem hlt)
      obtain ⟨b2, o2, rfl, u2, hu2, q0, q1, q2⟩ := HA2.out k m[k] (List.getElem?_eq_getElem hkm)
      replace p0 := cell_stays hb p0
      replace p1 := cell_stays hb p1
      replace p2 := cell_stays hb p2
      replace q0 := cell_stays hb q0
      replace q1 := cell_stays hb q1
      replace q2 := cell_stays hb q2
      have hget := Lib.hid (List.getElem?_eq_getElem hlt)
      have hget2 := Lib.hid (List.getElem?_eq_getElem hkm)
      obtain ⟨x, hx⟩ : ∃ x, x = l[k] := ⟨_, rfl⟩
      obtain ⟨y, hy⟩ : ∃ y, y = m[k] := ⟨_, rfl⟩
      rw [← hx] at hget p0 p1 hu1
      rw [← hy] at hget2 q0 q1 hu2
      have HU1 := Lib.hid (hu1.stays bndAt_stays hb)
      have HU2 := Lib.hid (hu2.stays bndAt_stays hb)
      obtain ⟨A3, c3, rfl, -⟩ := hu1
      obtain ⟨A4, c4, rfl, -⟩ := hu2
      clear hx hy
      obtain ⟨r1, hr1⟩ : ∃ r, bsC x.bs y.bs = r := ⟨_, rfl⟩
      have HRR := Lib.hid (fun W (hW : Below wr.heap.size wr W) => gr_bel (rcompare_any x.bs y.bs _ _ W (HU1.out.stays bndAt_stays hW) (HU2.out.stays bndAt_stays hW)) hr1)
      unfold matV at HRR
      have HR1 := Lib.hid hr1
      clear hr1
      have HF : Hid (x ≠ y → r = false) := Lib.hid (by
        intro hxy
        rw [← HR.out]; simp; intro h
        have h7 := hget.out
        rw [h, hget2.out] at h7
        injection h7 with h7
        exact hxy h7.symm)
      by_cases hs : x.sg = y.sg
      case neg =>
        have hs' : (x.sg != y.sg) = true := by simpa using hs
        have HF2 := Lib.hid (HF.out (fun h => hs (by rw [h])))
        clear hs
        go_wp2_with fail
        refine wp_region_F (fun W => W.cell? ⟨b1, o1 + k * 3, none⟩ = some (.int .i64 x.sg) ∧ W.cell? ⟨b1, o1 + k * 3 + 1, none⟩ = some (.int .i64 x.q) ∧ W.cell? ⟨b1, o1 + k * 3 + 2, none⟩ = some (.slice A3 x.bs.length c3) ∧ W.cell? ⟨b2, o2 + k * 3, none⟩ = some (.int .i64 y.sg) ∧ W.cell? ⟨b2, o2 + k * 3 + 1, none⟩ = some (.int .i64 y.q) ∧ W.cell? ⟨b2, o2 + k * 3 + 2, none⟩ = some (.slice A4 y.bs.length c4)) (by repeat (first | exact grows_cell _ _ _ | exact grows_true | refine grows_and ?_ ?_)) (by kernel_rfl) (by kernel_rfl) ?hF ?_; (case hF => (first | exact ⟨‹_›, ‹_›⟩ | (go_simp; done) | (simp [*]; done) | (repeat' (first | (refine And.intro ?_ ?_) | (go_simp; done) | exact cell_stays (bel_al (Below.refl _ _) _) (by assumption) | assumption)))); intro hne hxx; have hG : Hid (Grows (fun W => W.cell? ⟨b1, o1 + k * 3, none⟩ = some (.int .i64 x.sg) ∧ W.cell? ⟨b1, o1 + k * 3 + 1, none⟩ = some (.int .i64 x.q) ∧ W.cell? ⟨b1, o1 + k * 3 + 2, none⟩ = some (.slice A3 x.bs.length c3) ∧ W.cell? ⟨b2, o2 + k * 3, none⟩ = some (.int .i64 y.sg) ∧ W.cell? ⟨b2, o2 + k * 3 + 1, none⟩ = some (.int .i64 y.q) ∧ W.cell? ⟨b2, o2 + k * 3 + 2, none⟩ = some (.slice A4 y.bs.length c4))) := (by repeat (first | exact grows_cell _ _ _ | exact grows_true | refine grows_and ?_ ?_)); (repeat (go_big_quiet_step (fail))); clear hG hxx hne; refine wpQuiet_nil ?_; rintro _ ⟨⟨w', hb', hF'⟩, rfl⟩
        clear hF'
        go_wp2_with fail
        go_ret
        rw [HF2.out]
        exact ⟨rfl, bel_tr hb hb'⟩
      have hs' : (x.sg != y.sg) = false := by simpa using hs
      by_cases hq : x.q = y.q
      case neg =>
        have hq' : (x.q != y.q) = true := by simpa using hq
        have HF2 := Lib.hid (HF.out (fun h => hq (by rw [h])))
        clear hs hq
        go_wp2_with fail
        refine wp_region_F (fun W => W.cell? ⟨b1, o1 + k * 3, none⟩ = some (.int .i64 x.sg) ∧ W.cell? ⟨b1, o1 + k * 3 + 1, none⟩ = some (.int .i64 x.q) ∧ W.cell? ⟨b1, o1 + k * 3 + 2, none⟩ = some (.slice A3 x.bs.length c3) ∧ W.cell? ⟨b2, o2 + k * 3, none⟩ = some (.int .i64 y.sg) ∧ W.cell? ⟨b2, o2 + k * 3 + 1, none⟩ = some (.int .i64 y.q) ∧ W.cell? ⟨b2, o2 + k * 3 + 2, none⟩ = some (.slice A4 y.bs.length c4)) (by repeat (first | exact grows_cell _ _ _ | exact grows_true | refine grows_and ?_ ?_)) (by kernel_rfl) (by kernel_rfl) ?hF ?_; (case hF => (first | exact ⟨‹_›, ‹_›⟩ | (go_simp; done) | (simp [*]; done) | (repeat' (first | (refine And.intro ?_ ?_) | (go_simp; done) | exact cell_stays (bel_al (Below.refl _ _) _) (by assumption) | assumption)))); intro hne hxx; have hG : Hid (Grows (fun W => W.cell? ⟨b1, o1 + k * 3, none⟩ = some (.int .i64 x.sg) ∧ W.cell? ⟨b1, o1 + k * 3 + 1, none⟩ = some (.int .i64 x.q) ∧ W.cell? ⟨b1, o1 + k * 3 + 2, none⟩ = some (.slice A3 x.bs.length c3) ∧ W.cell? ⟨b2, o2 + k * 3, none⟩ = some (.int .i64 y.sg) ∧ W.cell? ⟨b2, o2 + k * 3 + 1, none⟩ = some (.int .i64 y.q) ∧ W.cell? ⟨b2, o2 + k * 3 + 2, none⟩ = some (.slice A4 y.bs.length c4))) := (by repeat (first | exact grows_cell _ _ _ | exact grows_true | refine grows_and ?_ ?_)); (repeat (go_big_quiet_step (fail))); clear hG hxx hne; refine wpQuiet_nil ?_; rintro _ ⟨⟨w', hb', hF'⟩, rfl⟩
        clear hF'
        go_wp2_with fail
        go_ret
        rw [HF2.out]
        exact ⟨rfl, bel_tr hb hb'⟩
      have hq' : (x.q != y.q) = false := by simpa using hq
      by_cases hr0 : r1 = 0
      · subst hr0
        have HXY : Hid (x = y) := Lib.hid (by
          have e2 := bsC_eq.1 HR1.out
          cases x; cases y; simp only [Chg.mk.injEq]; exact ⟨hs, hq, e2⟩)
        clear hs hq
        go_wp2_with fail
        refine wp_region_F (fun W => W.cell? ⟨b1, o1 + k * 3, none⟩ = some (.int .i64 x.sg) ∧ W.cell? ⟨b1, o1 + k * 3 + 1, none⟩ = some (.int .i64 x.q) ∧ W.cell? ⟨b1, o1 + k * 3 + 2, none⟩ = some (.slice A3 x.bs.length c3) ∧ W.cell? ⟨b2, o2 + k * 3, none⟩ = some (.int .i64 y.sg) ∧ W.cell? ⟨b2, o2 + k * 3 + 1, none⟩ = some (.int .i64 y.q) ∧ W.cell? ⟨b2, o2 + k * 3 + 2, none⟩ = some (.slice A4 y.bs.length c4)) (by repeat (first | exact grows_cell _ _ _ | exact grows_true | refine grows_and ?_ ?_)) (by kernel_rfl) (by kernel_rfl) ?hF ?_; (case hF => (first | exact ⟨‹_›, ‹_›⟩ | (go_simp; done) | (simp [*]; done) | (repeat' (first | (refine And.intro ?_ ?_) | (go_simp; done) | exact cell_stays (bel_al (Below.refl _ _) _) (by assumption) | assumption)))); intro hne hxx; have hG : Hid (Grows (fun W => W.cell? ⟨b1, o1 + k * 3, none⟩ = some (.int .i64 x.sg) ∧ W.cell? ⟨b1, o1 + k * 3 + 1, none⟩ = some (.int .i64 x.q) ∧ W.cell? ⟨b1, o1 + k * 3 + 2, none⟩ = some (.slice A3 x.bs.length c3) ∧ W.cell? ⟨b2, o2 + k * 3, none⟩ = some (.int .i64 y.sg) ∧ W.cell? ⟨b2, o2 + k * 3 + 1, none⟩ = some (.int .i64 y.q) ∧ W.cell? ⟨b2, o2 + k * 3 + 2, none⟩ = some (.slice A4 y.bs.length c4))) := (by repeat (first | exact grows_cell _ _ _ | exact grows_true | refine grows_and ?_ ?_)); (repeat (go_big_quiet_step ((go_at_call 42; exact cls_callB hG (fun W hW => HRR.out W hW))))); clear hG hxx hne; refine wpQuiet_nil ?_; rintro _ ⟨⟨w', hb', hF'⟩, rfl⟩
        clear hF'
        go_wp2_with fail
        go_roundw
        case rel =>
          refine ⟨k + 1, by omega, by go_num, Lib.hid ?_, bel_tr hb hb'⟩
          intro j x' y' hj hj2 hjk
          rcases Nat.lt_or_eq_of_le (Nat.le_of_lt_succ hjk) with h | h
          · exact hi.out j x' y' hj hj2 h
          · subst h; rw [hget.out] at hj; rw [hget2.out] at hj2; injection hj with hj; injection hj2 with hj2; rw [← hj, ← hj2]; exact HXY.out
        case measure => simp [intOf]; omega
      · have hr' : (r1 != 0) = true := by simpa using hr0
        have HF2 := Lib.hid (HF.out (fun h => hr0 (by rw [← HR1.out, h]; exact bsC_pc.refl _)))
        clear hr0 hs hq
        go_wp2_with fail
        refine wp_region_F (fun W => W.cell? ⟨b1, o1 + k * 3, none⟩ = some (.int .i64 x.sg) ∧ W.cell? ⟨b1, o1 + k * 3 + 1, none⟩ = some (.int .i64 x.q) ∧ W.cell? ⟨b1, o1 + k * 3 + 2, none⟩ = some (.slice A3 x.bs.length c3) ∧ W.cell? ⟨b2, o2 + k * 3, none⟩ = some (.int .i64 y.sg) ∧ W.cell? ⟨b2, o2 + k * 3 + 1, none⟩ = some (.int .i64 y.q) ∧ W.cell? ⟨b2, o2 + k * 3 + 2, none⟩ = some (.slice A4 y.bs.length c4)) (by repeat (first | exact grows_cell _ _ _ | exact grows_true | refine grows_and ?_ ?_)) (by kernel_rfl) (by kernel_rfl) ?hF ?_; (case hF => (first | exact ⟨‹_›, ‹_›⟩ | (go_simp; done) | (simp [*]; done) | (repeat' (first | (refine And.intro ?_ ?_) | (go_simp; done) | exact cell_stays (bel_al (Below.refl _ _) _) (by assumption) | assumption)))); intro hne hxx; have hG : Hid (Grows (fun W => W.cell? ⟨b1, o1 + k * 3, none⟩ = some (.int .i64 x.sg) ∧ W.cell? ⟨b1, o1 + k * 3 + 1, none⟩ = some (.int .i64 x.q) ∧ W.cell? ⟨b1, o1 + k * 3 + 2, none⟩ = some (.slice A3 x.bs.length c3) ∧ W.cell? ⟨b2, o2 + k * 3, none⟩ = some (.int .i64 y.sg) ∧ W.cell? ⟨b2, o2 + k * 3 + 1, none⟩ = some (.int .i64 y.q) ∧ W.cell? ⟨b2, o2 + k * 3 + 2, none⟩ = some (.slice A4 y.bs.length c4))) := (by repeat (first | exact grows_cell _ _ _ | exact grows_true | refine grows_and ?_ ?_)); (repeat (go_big_quiet_step ((go_at_call 42; exact cls_callB hG (fun W hW => HRR.out W hW))))); clear hG hxx hne; refine wpQuiet_nil ?_; rintro _ ⟨⟨w', hb', hF'⟩, rfl⟩
        clear hF'
        go_wp2_with fail
        go_ret
        rw [HF2.out]
        exact ⟨rfl, bel_tr hb hb'⟩
    · have hk' : ¬ (k : Int) < (l.length : Int) := by omega
      have HF : Hid (r = true) := Lib.hid (by
        rw [← HR.out, decide_eq_true_eq]
        refine eq_upto HNE.out fun j x y hj hj2 => hi.out j x y hj hj2 ?_
        have := (List.getElem?_eq_some_iff.1 hj).1; omega)
      go_wp2_with fail
      go_ret
      rw [HF.out]
      exact ⟨rfl, hb⟩

end Go.Proofs.YtlofjcicpkfcdaaGreatDoor
