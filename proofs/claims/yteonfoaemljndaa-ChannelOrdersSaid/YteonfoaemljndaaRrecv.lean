/- Receive, as the reference does it. -/
import Derived.Test.YteonfoaemljndaaRecv
import Derived.Test.YteonfoaemljndaaWitha
import Derived.Deep.RegionHeld3
namespace Go.Proofs.Yteonfoaemljndaa
open Go.RowKit

theorem tail_at {W : World} {A2 : Option Addr} {gi og ci n : Nat} {l : List Item} {x : Item} {xs : List Item} (h : IsItems W (.slice (some ⟨gi, og, none⟩) n ci) l) (hx : l = x :: xs) (hA : ci = 1 ∨ A2 = some ⟨gi, og + 7, none⟩) : IsItems W (.slice A2 (n - 1) (ci - 1)) xs := by
  subst hx
  obtain ⟨A, c, hv, h1, h2, h3⟩ := h
  injection hv with e1 e2 e3
  subst e1 e2 e3
  simp only [List.length_cons] at h1
  refine ⟨A2, ci - 1, by simp, by omega, by omega, fun k y hk => ?_⟩
  obtain ⟨b, o, hbo, hx⟩ := h3 (k + 1) y (by simpa using hk)
  injection hbo with hbo
  injection hbo with e1 e2
  subst e1 e2
  have hkl := (List.getElem?_eq_some_iff.1 hk).1
  rcases hA with hA | hA
  · omega
  · refine ⟨gi, og + 7, hA, ?_⟩
    rwa [show og + (k + 1) * 7 = og + 7 + k * 7 by omega] at hx

theorem tail_one {W : World} {A2 : Option Addr} {gi og ci n : Nat} {l : List Item} {x : Item} {xs : List Item} (h : IsItems W (.slice (some ⟨gi, og, none⟩) n ci) l) (hx : l = x :: xs) (hA : ci = 1) : IsItems W (.slice A2 (n - 1) 0) xs := by
  have := tail_at (A2 := A2) h hx (Or.inl hA)
  subst hA
  exact this

theorem cells8_stay {w W : World} {p1 p2 p3 p4 p5 p6 p7 p8 : Nat × Nat} {v1 v2 v3 v4 v5 v6 v7 v8 : Value} (hb : Below w.heap.size w W)
    (h : w.cell? ⟨p1.1, p1.2, none⟩ = some v1 ∧ w.cell? ⟨p2.1, p2.2, none⟩ = some v2 ∧ w.cell? ⟨p3.1, p3.2, none⟩ = some v3 ∧ w.cell? ⟨p4.1, p4.2, none⟩ = some v4 ∧ w.cell? ⟨p5.1, p5.2, none⟩ = some v5 ∧ w.cell? ⟨p6.1, p6.2, none⟩ = some v6 ∧ w.cell? ⟨p7.1, p7.2, none⟩ = some v7 ∧ w.cell? ⟨p8.1, p8.2, none⟩ = some v8) :
    W.cell? ⟨p1.1, p1.2, none⟩ = some v1 ∧ W.cell? ⟨p2.1, p2.2, none⟩ = some v2 ∧ W.cell? ⟨p3.1, p3.2, none⟩ = some v3 ∧ W.cell? ⟨p4.1, p4.2, none⟩ = some v4 ∧ W.cell? ⟨p5.1, p5.2, none⟩ = some v5 ∧ W.cell? ⟨p6.1, p6.2, none⟩ = some v6 ∧ W.cell? ⟨p7.1, p7.2, none⟩ = some v7 ∧ W.cell? ⟨p8.1, p8.2, none⟩ = some v8 := by
  obtain ⟨h1, h2, h3, h4, h5, h6, h7, h8⟩ := h
  exact ⟨cell_stays hb h1, cell_stays hb h2, cell_stays hb h3, cell_stays hb h4, cell_stays hb h5, cell_stays hb h6, cell_stays hb h7, cell_stays hb h8⟩

theorem far7 {w : World} {r g p : Nat} {u0 u1 u2 u3 u4 u5 u6 : Value} (h : g ≠ r) : (((((((w.setCell ⟨r, 0, none⟩ u0).setCell ⟨r, 1, none⟩ u1).setCell ⟨r, 2, none⟩ u2).setCell ⟨r, 3, none⟩ u3).setCell ⟨r, 4, none⟩ u4).setCell ⟨r, 5, none⟩ u5).setCell ⟨r, 6, none⟩ u6).cell? ⟨g, p, none⟩ = w.cell? ⟨g, p, none⟩ := by
  have h' : r ≠ g := Ne.symm h
  rw [World.cell?_setCell_far _ _ _ _ h', World.cell?_setCell_far _ _ _ _ h', World.cell?_setCell_far _ _ _ _ h', World.cell?_setCell_far _ _ _ _ h', World.cell?_setCell_far _ _ _ _ h', World.cell?_setCell_far _ _ _ _ h', World.cell?_setCell_far _ _ _ _ h']

theorem bel_sets7 {w0 w : World} {r : Nat} {u0 u1 u2 u3 u4 u5 u6 : Value} (h : Below w0.heap.size w0 w) (hr : w0.heap.size ≤ r) : Below w0.heap.size w0 (((((((w.setCell ⟨r, 0, none⟩ u0).setCell ⟨r, 1, none⟩ u1).setCell ⟨r, 2, none⟩ u2).setCell ⟨r, 3, none⟩ u3).setCell ⟨r, 4, none⟩ u4).setCell ⟨r, 5, none⟩ u5).setCell ⟨r, 6, none⟩ u6) :=
  bel_set (bel_set (bel_set (bel_set (bel_set (bel_set (bel_set h hr _) hr _) hr _) hr _) hr _) hr _) hr _
theorem heap_sets7 {w : World} {r b : Nat} {u0 u1 u2 u3 u4 u5 u6 : Value} (h : b ≠ r) : (((((((w.setCell ⟨r, 0, none⟩ u0).setCell ⟨r, 1, none⟩ u1).setCell ⟨r, 2, none⟩ u2).setCell ⟨r, 3, none⟩ u3).setCell ⟨r, 4, none⟩ u4).setCell ⟨r, 5, none⟩ u5).setCell ⟨r, 6, none⟩ u6).heap[b]? = w.heap[b]? := by
  simp [World.setCell, Array.getElem?_modify, Ne.symm h]

set_option maxRecDepth 100000 in
set_option maxHeartbeats 1000000 in
theorem rreceive_any (l : List Queue) (v : Value) (f t : Int) (w : World) (hl : IsQueues w v l) (hsm : l.length ≤ 1048576) (hit : ∀ q ∈ l, q.items.length ≤ 1048576) :
    Calls Try.prog 24 #[v, .int .i64 f, .int .i64 t] w (RecvRet w (receiveR l f t)) := by
  have HL := Lib.hid hl
  have HIT := Lib.hid hit
  clear hit
  obtain ⟨A, c, rfl, -⟩ := hl
  by_cases hf : (foundR l f t).2 = 0
  · obtain ⟨i, q, hfi, hc0, hfq, hq⟩ := found_ok hf
    have HF := Lib.hid hfi
    have HQ := Lib.hid hq
    have hil := (List.getElem?_eq_some_iff.1 hq).1
    have hil' : (i : Int) < (l.length : Int) := by omega
    clear hf hfi hc0 hfq hq
    obtain ⟨b, o, u, rfl, -, hu, c0, c1, c2⟩ := cell_of_queues HL.out HQ.out
    cases hqi : q.items with
    | nil =>
      have HR := Lib.hid (receiveR_nil HF.out HQ.out hqi)
      obtain ⟨Au, cu, rfl, -⟩ := hu
      rw [hqi] at c2
      simp only [List.length_nil] at c2
      clear hqi
      go_enter Try.func24, Try.ntmps24
      go_wp2_with (go_at_call 39; refine (found_at (HL.out.stays queueAt_stays (bel_one _ _)) HF.out).mono ?_; rintro e w1 ⟨rfl, hb1⟩; replace c0 := cell_via hb1 c0; replace c1 := cell_via hb1 c1; replace c2 := cell_via hb1 c2; have hbl := World.block_lt_of_cell? w1 _ c2; simp only at hbl; obtain ⟨hz, hzf⟩ := new_cells hb1)
      rw [HR.out]
      exact bodyPost_ret (v := .tuple #[.slice none 0 0, itemV zeroItem (.slice none 0 0), .int .i64 20]) (by simp [results, Try.results24, go_sem, itemV, zeroItem, hz]) rfl ⟨_, _, rfl, nil_queues _, Sl.nil _ _ _ _ _ (Nat.zero_le _), (by (repeat (with_reducible refine bel_set ?_ (Nat.le_refl _) _)); exact bel_tr (bel_one _ _) hb1)⟩
    | cons x xs =>
      have HR := Lib.hid (receiveR_cons HF.out HQ.out hqi)
      have hu' := hu
      obtain ⟨Au, cu, rfl, hcu1, hcu2, hat⟩ := hu'
      obtain ⟨b2, o2, rfl, v2, hv2, d0, d1, d2, d3, d4, d5, d6⟩ := hat 0 x (by rw [hqi]; rfl)
      simp only [Nat.zero_mul, Nat.add_zero] at d0 d1 d2 d3 d4 d5 d6
      have HV := Lib.hid hv2
      obtain ⟨A3, c3, rfl, -⟩ := hv2
      have HU := Lib.hid hu
      clear hat hu
      have hn1 : (0 : Int) < (q.items.length : Int) := by rw [hqi, List.length_cons]; omega
      have hn2 : 1 ≤ q.items.length := by omega
      have hn3 : 0 < q.items.length := by omega
      have hn4 : (1 : Int) ≤ (q.items.length : Int) := by omega
      have hn5 : q.items.length ≠ 0 := by omega
      have hn6 : (q.items.length : Int) ≤ (cu : Int) := by omega
      have hn0 : (((q.items.length : Nat) : Int) == 0) = false := by rw [hqi, List.length_cons, beq_eq_false_iff_ne]; omega
      have HQI := Lib.hid hqi
      have HXM : Hid (xs.length ≤ 1048576) := Lib.hid (by have h := HIT.out q (List.mem_of_getElem? HQ.out); rw [hqi, List.length_cons] at h; omega)
      have HBL : Hid (b < w.heap.size) := Lib.hid (World.block_lt_of_cell? w _ c2)
      have HBL2 : Hid (b2 < w.heap.size) := Lib.hid (World.block_lt_of_cell? w _ d0)
      clear hqi
      go_enter Try.func24, Try.ntmps24
      go_wp2_with (go_at_call 39; refine (found_at (HL.out.stays queueAt_stays (bel_one _ _)) HF.out).mono ?_; rintro e w1 ⟨rfl, hb1⟩; replace c0 := cell_via hb1 c0; replace c1 := cell_via hb1 c1; replace c2 := cell_via hb1 c2; have hbl := World.block_lt_of_cell? w1 _ c2; simp only at hbl; replace d0 := cell_via hb1 d0; replace d1 := cell_via hb1 d1; replace d2 := cell_via hb1 d2; replace d3 := cell_via hb1 d3; replace d4 := cell_via hb1 d4; replace d5 := cell_via hb1 d5; replace d6 := cell_via hb1 d6; obtain ⟨hz, hzf⟩ := new_cells hb1)
      have hbw := bel_tr (bel_one w _) hb1
      have hbr : b ≠ w.heap.size := fun e => by have := HBL.out; omega
      have hbr2 : b2 ≠ w.heap.size := fun e => by have := HBL2.out; omega
      have HB1 := Lib.hid hb1
      have HBW := Lib.hid hbw
      clear hb1 hbw c0 c1
      by_cases hc1 : cu = 1
      · go_region_held3 (fun W => W.cell? ⟨b, o + i * 3 + 2, none⟩ = some (.slice (some ⟨b2, o2, none⟩) q.items.length cu) ∧ W.cell? ⟨b2, o2, none⟩ = some (.int .i64 x.kind) ∧ W.cell? ⟨b2, o2 + 1, none⟩ = some (.int .i64 x.source) ∧ W.cell? ⟨b2, o2 + 2, none⟩ = some (.int .i64 x.seq) ∧ W.cell? ⟨b2, o2 + 3, none⟩ = some (.int .i64 x.type) ∧ W.cell? ⟨b2, o2 + 4, none⟩ = some (.int .i64 x.time) ∧ W.cell? ⟨b2, o2 + 5, none⟩ = some (.slice A3 x.values.length c3) ∧ W.cell? ⟨b2, o2 + 6, none⟩ = some (.int .i64 x.number)) (first
          | (simp only [far7 hbr, far7 hbr2]; assumption)
          | with_reducible exact cells8_stay (p1 := (b, o + i * 3 + 2)) (p2 := (b2, o2)) (p3 := (b2, o2 + 1)) (p4 := (b2, o2 + 2)) (p5 := (b2, o2 + 3)) (p6 := (b2, o2 + 4)) (p7 := (b2, o2 + 5)) (p8 := (b2, o2 + 6)) (Below.refl _ _).drew ⟨c2, d0, d1, d2, d3, d4, d5, d6⟩
          | with_reducible exact cells8_stay (p1 := (b, o + i * 3 + 2)) (p2 := (b2, o2)) (p3 := (b2, o2 + 1)) (p4 := (b2, o2 + 2)) (p5 := (b2, o2 + 3)) (p6 := (b2, o2 + 4)) (p7 := (b2, o2 + 5)) (p8 := (b2, o2 + 6)) hb5 (by assumption)) (first
          | (go_at_call 41; refine (with_at l _ i xs _ w _ HBW.out.drew HL.out (tail_one HU.out HQI.out hc1) hil hsm HXM.out).mono ?_; rintro e w5 ⟨v5, rfl, hb5, hq5⟩; have HQ5 := Lib.hid hq5; clear hq5; obtain ⟨hz5, hzf5⟩ := new_cells (bel_tr HB1.out.drew hb5)))
        go_wp2
        rw [HR.out]
        refine bodyPost_ret (v := .tuple #[v5, itemV x (.slice A3 x.values.length c3), .int .i64 0]) (by simp [results, Try.results24, go_sem, itemV, hz5]) rfl ?_
        have hB9 := bel_sets7 (r := w.heap.size) (u0 := .int .i64 x.kind) (u1 := .int .i64 x.source) (u2 := .int .i64 x.seq) (u3 := .int .i64 x.type) (u4 := .int .i64 x.time) (u5 := .slice A3 x.values.length c3) (u6 := .int .i64 x.number) (bel_tr HBW.out.drew hb5) (Nat.le_refl _)
        have hr1 : w.heap.size < w1.heap.size := by have := HB1.out.size; simp at this; omega
        refine ⟨_, _, rfl, HQ5.out _ hB9 (fun b' h1 _ => heap_sets7 (by simp at h1; omega)), HV.out.stays valAt_stays hB9, hB9⟩
      · have hc2 : cu - 1 ≠ 0 := by omega
        go_region_held3 (fun W => W.cell? ⟨b, o + i * 3 + 2, none⟩ = some (.slice (some ⟨b2, o2, none⟩) q.items.length cu) ∧ W.cell? ⟨b2, o2, none⟩ = some (.int .i64 x.kind) ∧ W.cell? ⟨b2, o2 + 1, none⟩ = some (.int .i64 x.source) ∧ W.cell? ⟨b2, o2 + 2, none⟩ = some (.int .i64 x.seq) ∧ W.cell? ⟨b2, o2 + 3, none⟩ = some (.int .i64 x.type) ∧ W.cell? ⟨b2, o2 + 4, none⟩ = some (.int .i64 x.time) ∧ W.cell? ⟨b2, o2 + 5, none⟩ = some (.slice A3 x.values.length c3) ∧ W.cell? ⟨b2, o2 + 6, none⟩ = some (.int .i64 x.number)) (first
          | (simp only [far7 hbr, far7 hbr2]; assumption)
          | with_reducible exact cells8_stay (p1 := (b, o + i * 3 + 2)) (p2 := (b2, o2)) (p3 := (b2, o2 + 1)) (p4 := (b2, o2 + 2)) (p5 := (b2, o2 + 3)) (p6 := (b2, o2 + 4)) (p7 := (b2, o2 + 5)) (p8 := (b2, o2 + 6)) (Below.refl _ _).drew ⟨c2, d0, d1, d2, d3, d4, d5, d6⟩
          | with_reducible exact cells8_stay (p1 := (b, o + i * 3 + 2)) (p2 := (b2, o2)) (p3 := (b2, o2 + 1)) (p4 := (b2, o2 + 2)) (p5 := (b2, o2 + 3)) (p6 := (b2, o2 + 4)) (p7 := (b2, o2 + 5)) (p8 := (b2, o2 + 6)) hb5 (by assumption)) (first
          | (go_at_call 41; refine (with_at l _ i xs _ w _ HBW.out.drew HL.out (tail_at HU.out HQI.out (Or.inr rfl)) hil hsm HXM.out).mono ?_; rintro e w5 ⟨v5, rfl, hb5, hq5⟩; have HQ5 := Lib.hid hq5; clear hq5; obtain ⟨hz5, hzf5⟩ := new_cells (bel_tr HB1.out.drew hb5)))
        go_wp2
        rw [HR.out]
        refine bodyPost_ret (v := .tuple #[v5, itemV x (.slice A3 x.values.length c3), .int .i64 0]) (by simp [results, Try.results24, go_sem, itemV, hz5]) rfl ?_
        have hB9 := bel_sets7 (r := w.heap.size) (u0 := .int .i64 x.kind) (u1 := .int .i64 x.source) (u2 := .int .i64 x.seq) (u3 := .int .i64 x.type) (u4 := .int .i64 x.time) (u5 := .slice A3 x.values.length c3) (u6 := .int .i64 x.number) (bel_tr HBW.out.drew hb5) (Nat.le_refl _)
        have hr1 : w.heap.size < w1.heap.size := by have := HB1.out.size; simp at this; omega
        refine ⟨_, _, rfl, HQ5.out _ hB9 (fun b' h1 _ => heap_sets7 (by simp at h1; omega)), HV.out.stays valAt_stays hB9, hB9⟩
  · obtain ⟨y, hy⟩ : ∃ y, y = (foundR l f t).2 := ⟨_, rfl⟩
    have hfy : foundR l f t = (0, y) := Prod.ext (found_no hf) hy.symm
    have HR := Lib.hid (receiveR_no hf)
    have g1 : (y == 0) = false := by rw [hy]; simpa using hf
    have g2 : (y != 0) = true := by rw [hy]; simpa using hf
    have HF := Lib.hid hfy
    have HY := Lib.hid hy
    clear hy hfy hf
    go_enter Try.func24, Try.ntmps24
    go_wp2_with (go_at_call 39; refine (found_at (HL.out.stays queueAt_stays (bel_one _ _)) HF.out).mono ?_; rintro e w1 ⟨rfl, hb1⟩; obtain ⟨hz, hzf⟩ := new_cells hb1)
    rw [HR.out, ← HY.out]
    exact bodyPost_ret (v := .tuple #[.slice none 0 0, itemV zeroItem (.slice none 0 0), .int .i64 y]) (by simp [results, Try.results24, go_sem, itemV, zeroItem, hz]) rfl ⟨_, _, rfl, nil_queues _, Sl.nil _ _ _ _ _ (Nat.zero_le _), (by (repeat (with_reducible refine bel_set ?_ (Nat.le_refl _) _)); exact bel_tr (bel_one _ _) hb1)⟩
end Go.Proofs.Yteonfoaemljndaa
