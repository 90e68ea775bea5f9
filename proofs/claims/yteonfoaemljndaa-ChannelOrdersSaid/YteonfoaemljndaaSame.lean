/- Equal items, lists of items and channels are the same to the reference. -/
import Derived.Test.YteonfoaemljndaaProg
import Derived.Test.YteonfoaemljndaaData
import Derived.Test.YteonfoaemljndaaItms
namespace Go.Proofs.Yteonfoaemljndaa
open Go.RowKit

set_option maxRecDepth 100000 in
set_option maxHeartbeats 1000000 in
theorem sameItem_eq (x : Item) (v1 v2 : Value) (w : World) (h1 : IsVals w v1 x.values) (h2 : IsVals w v2 x.values) :
    Calls Try.prog 27 #[itemV x v1, itemV x v2] w fun e w' => e = .returned (.bool true) ∧ Below w.heap.size w w' := by
  have H1 := Lib.hid h1
  have H2 := Lib.hid h2
  obtain ⟨A1, c1, rfl, l1, m1, -⟩ := h1
  obtain ⟨A2, c2, rfl, l2, m2, -⟩ := h2
  unfold itemV
  go_enter Try.func27, Try.ntmps27
  go_wp2
  go_region
  go_wp2
  · go_loopw [7] (fun i wr => ∃ k : Nat, k ≤ x.values.length ∧ i = .int .i64 k ∧ Hid (wr.cell? ⟨w.heap.size + 2, 4, none⟩ = some (.slice A1 x.values.length c1) ∧ wr.cell? ⟨w.heap.size + 3, 4, none⟩ = some (.slice A2 x.values.length c2) ∧ Below w.heap.size w wr)) (fun i _ => x.values.length - (intOf i).toNat)
    case atStart => exact ⟨0, Nat.zero_le _, rfl, by go_simp, by go_simp, (by repeat (first | exact Below.refl _ _ | assumption | refine Below.drew ?_ | refine bel_al ?_ _ | refine bel_set ?_ (by omega) _ | refine bel_tr ?_ (by assumption)))⟩
    case round =>
      obtain ⟨k, hk, rfl, hh⟩ := hrel
      obtain ⟨d1, d2, hb⟩ := hh
      have hn := len_i64 l1 m1
      by_cases hlt : k < x.values.length
      · obtain ⟨_, _, hv1, -, -, a1⟩ := H1.out
        obtain ⟨_, _, hv2, -, -, a2⟩ := H2.out
        injection hv1 with e1 e2 e3
        injection hv2 with e4 e5 e6
        subst e1 e3 e4 e6
        obtain ⟨b1, o1, rfl, p0, p1, p2⟩ := a1 k x.values[k] (List.getElem?_eq_getElem hlt)
        obtain ⟨b2, o2, rfl, q0, q1, q2⟩ := a2 k x.values[k] (List.getElem?_eq_getElem hlt)
        replace p0 := cell_stays hb p0
        replace p1 := cell_stays hb p1
        replace p2 := cell_stays hb p2
        replace q0 := cell_stays hb q0
        replace q1 := cell_stays hb q1
        replace q2 := cell_stays hb q2
        have hk' : (k : Int) < (x.values.length : Int) := by omega
        clear a1 a2 e2 e5
        go_wp2
        refine wp_region_F (fun W => W.cell? ⟨w.heap.size + 2, 4, none⟩ = some (.slice (some ⟨b1, o1, none⟩) x.values.length c1) ∧ W.cell? ⟨w.heap.size + 3, 4, none⟩ = some (.slice (some ⟨b2, o2, none⟩) x.values.length c2) ∧ W.cell? ⟨b1, o1 + k * 3, none⟩ = some (.int .i64 x.values[k].kind) ∧ W.cell? ⟨b1, o1 + k * 3 + 1, none⟩ = some (.int .i64 x.values[k].num) ∧ W.cell? ⟨b1, o1 + k * 3 + 2, none⟩ = some (.string x.values[k].text) ∧ W.cell? ⟨b2, o2 + k * 3, none⟩ = some (.int .i64 x.values[k].kind) ∧ W.cell? ⟨b2, o2 + k * 3 + 1, none⟩ = some (.int .i64 x.values[k].num) ∧ W.cell? ⟨b2, o2 + k * 3 + 2, none⟩ = some (.string x.values[k].text)) (by repeat (first | exact grows_cell _ _ _ | exact grows_true | refine grows_and ?_ ?_)) (by kernel_rfl) (by kernel_rfl) ?hF ?_; (case hF => (first | exact ⟨‹_›, ‹_›⟩ | (go_simp; done) | (simp [*]; done))); intro hne hxx; have hG : Hid (Grows (fun W => W.cell? ⟨w.heap.size + 2, 4, none⟩ = some (.slice (some ⟨b1, o1, none⟩) x.values.length c1) ∧ W.cell? ⟨w.heap.size + 3, 4, none⟩ = some (.slice (some ⟨b2, o2, none⟩) x.values.length c2) ∧ W.cell? ⟨b1, o1 + k * 3, none⟩ = some (.int .i64 x.values[k].kind) ∧ W.cell? ⟨b1, o1 + k * 3 + 1, none⟩ = some (.int .i64 x.values[k].num) ∧ W.cell? ⟨b1, o1 + k * 3 + 2, none⟩ = some (.string x.values[k].text) ∧ W.cell? ⟨b2, o2 + k * 3, none⟩ = some (.int .i64 x.values[k].kind) ∧ W.cell? ⟨b2, o2 + k * 3 + 1, none⟩ = some (.int .i64 x.values[k].num) ∧ W.cell? ⟨b2, o2 + k * 3 + 2, none⟩ = some (.string x.values[k].text))) := (by repeat (first | exact grows_cell _ _ _ | exact grows_true | refine grows_and ?_ ?_)); (repeat (go_big_quiet_step (fail))); clear hG hxx hne; refine wpQuiet_nil ?_; rintro _ ⟨⟨w', hb', hF'⟩, rfl⟩
        obtain ⟨f1, f2, -⟩ := hF'
        go_wp2
        go_roundw
        case rel => exact ⟨k + 1, by omega, by go_num, f1, f2, bel_tr hb hb'⟩
        case measure => simp [intOf]; omega
      · go_wp2
        go_ret
        exact ⟨rfl, hb⟩
  · go_loopw [7] (fun i wr => ∃ k : Nat, k ≤ x.values.length ∧ i = .int .i64 k ∧ Hid (wr.cell? ⟨w.heap.size + 3, 4, none⟩ = some (.slice A1 x.values.length c1) ∧ wr.cell? ⟨w.heap.size + 2, 4, none⟩ = some (.slice A2 x.values.length c2) ∧ Below w.heap.size w wr)) (fun i _ => x.values.length - (intOf i).toNat)
    case atStart => exact ⟨0, Nat.zero_le _, rfl, by go_simp, by go_simp, (by repeat (first | exact Below.refl _ _ | assumption | refine Below.drew ?_ | refine bel_al ?_ _ | refine bel_set ?_ (by omega) _ | refine bel_tr ?_ (by assumption)))⟩
    case round =>
      obtain ⟨k, hk, rfl, hh⟩ := hrel
      obtain ⟨d1, d2, hb⟩ := hh
      have hn := len_i64 l1 m1
      by_cases hlt : k < x.values.length
      · obtain ⟨_, _, hv1, -, -, a1⟩ := H1.out
        obtain ⟨_, _, hv2, -, -, a2⟩ := H2.out
        injection hv1 with e1 e2 e3
        injection hv2 with e4 e5 e6
        subst e1 e3 e4 e6
        obtain ⟨b1, o1, rfl, p0, p1, p2⟩ := a1 k x.values[k] (List.getElem?_eq_getElem hlt)
        obtain ⟨b2, o2, rfl, q0, q1, q2⟩ := a2 k x.values[k] (List.getElem?_eq_getElem hlt)
        replace p0 := cell_stays hb p0
        replace p1 := cell_stays hb p1
        replace p2 := cell_stays hb p2
        replace q0 := cell_stays hb q0
        replace q1 := cell_stays hb q1
        replace q2 := cell_stays hb q2
        have hk' : (k : Int) < (x.values.length : Int) := by omega
        clear a1 a2 e2 e5
        go_wp2
        refine wp_region_F (fun W => W.cell? ⟨w.heap.size + 3, 4, none⟩ = some (.slice (some ⟨b1, o1, none⟩) x.values.length c1) ∧ W.cell? ⟨w.heap.size + 2, 4, none⟩ = some (.slice (some ⟨b2, o2, none⟩) x.values.length c2) ∧ W.cell? ⟨b1, o1 + k * 3, none⟩ = some (.int .i64 x.values[k].kind) ∧ W.cell? ⟨b1, o1 + k * 3 + 1, none⟩ = some (.int .i64 x.values[k].num) ∧ W.cell? ⟨b1, o1 + k * 3 + 2, none⟩ = some (.string x.values[k].text) ∧ W.cell? ⟨b2, o2 + k * 3, none⟩ = some (.int .i64 x.values[k].kind) ∧ W.cell? ⟨b2, o2 + k * 3 + 1, none⟩ = some (.int .i64 x.values[k].num) ∧ W.cell? ⟨b2, o2 + k * 3 + 2, none⟩ = some (.string x.values[k].text)) (by repeat (first | exact grows_cell _ _ _ | exact grows_true | refine grows_and ?_ ?_)) (by kernel_rfl) (by kernel_rfl) ?hF ?_; (case hF => (first | exact ⟨‹_›, ‹_›⟩ | (go_simp; done) | (simp [*]; done))); intro hne hxx; have hG : Hid (Grows (fun W => W.cell? ⟨w.heap.size + 3, 4, none⟩ = some (.slice (some ⟨b1, o1, none⟩) x.values.length c1) ∧ W.cell? ⟨w.heap.size + 2, 4, none⟩ = some (.slice (some ⟨b2, o2, none⟩) x.values.length c2) ∧ W.cell? ⟨b1, o1 + k * 3, none⟩ = some (.int .i64 x.values[k].kind) ∧ W.cell? ⟨b1, o1 + k * 3 + 1, none⟩ = some (.int .i64 x.values[k].num) ∧ W.cell? ⟨b1, o1 + k * 3 + 2, none⟩ = some (.string x.values[k].text) ∧ W.cell? ⟨b2, o2 + k * 3, none⟩ = some (.int .i64 x.values[k].kind) ∧ W.cell? ⟨b2, o2 + k * 3 + 1, none⟩ = some (.int .i64 x.values[k].num) ∧ W.cell? ⟨b2, o2 + k * 3 + 2, none⟩ = some (.string x.values[k].text))) := (by repeat (first | exact grows_cell _ _ _ | exact grows_true | refine grows_and ?_ ?_)); (repeat (go_big_quiet_step (fail))); clear hG hxx hne; refine wpQuiet_nil ?_; rintro _ ⟨⟨w', hb', hF'⟩, rfl⟩
        obtain ⟨f1, f2, -⟩ := hF'
        go_wp2
        go_roundw
        case rel => exact ⟨k + 1, by omega, by go_num, f1, f2, bel_tr hb hb'⟩
        case measure => simp [intOf]; omega
      · go_wp2
        go_ret
        exact ⟨rfl, hb⟩
end Go.Proofs.Yteonfoaemljndaa
