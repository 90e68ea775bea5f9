/- Equal lists and equal zones are found equal. -/
import Derived.Test.YtgecbjjcjemcgaaDchk
namespace Go.Proofs.Ytgecbjjcjemcgaa
open Go.RowKit

set_option maxRecDepth 100000 in
set_option maxHeartbeats 1000000 in
theorem sameInts_eq (l : List Int) (v1 v2 : Value) (w : World) (h1 : IsInts w v1 l) (h2 : IsInts w v2 l) :
    Calls Try.prog 16 #[v1, v2] w fun e w' => e = .returned (.bool true) ∧ Below w.heap.size w w' := by
  obtain ⟨A1, c1, rfl, l1, m1, a1⟩ := h1
  obtain ⟨A2, c2, rfl, l2, m2, a2⟩ := h2
  have hn := len_i64 l1 m1
  have HA1 := Lib.hid a1
  have HA2 := Lib.hid a2
  clear a1 a2 l1 l2 m1 m2
  go_enter Try.func16, Try.ntmps16
  go_wp2
  go_loopw [5] (fun i wr => ∃ k : Nat, k ≤ l.length ∧ i = .int .i64 k ∧ Below w.heap.size w wr) (fun i _ => l.length - (intOf i).toNat)
  case atStart => exact ⟨0, Nat.zero_le _, rfl, Below.refl _ _⟩
  case round =>
    obtain ⟨k, hk, rfl, hb⟩ := hrel
    by_cases hlt : k < l.length
    · obtain ⟨b1, o1, rfl, p1⟩ := HA1.out k l[k] (List.getElem?_eq_getElem hlt)
      obtain ⟨b2, o2, rfl, p2⟩ := HA2.out k l[k] (List.getElem?_eq_getElem hlt)
      replace p1 := cell_stays hb p1
      replace p2 := cell_stays hb p2
      simp only [Nat.mul_one] at p1 p2
      have hk' : (k : Int) < (l.length : Int) := by omega
      obtain ⟨z, hz⟩ : ∃ z, z = l[k] := ⟨_, rfl⟩
      rw [← hz] at p1 p2
      clear hz
      go_wp2
      refine wp_region_F (fun W => W.cell? ⟨b1, o1 + k, none⟩ = some (.int .i64 z) ∧ W.cell? ⟨b2, o2 + k, none⟩ = some (.int .i64 z)) (by repeat (first | exact grows_cell _ _ _ | exact grows_true | refine grows_and ?_ ?_)) (by kernel_rfl) (by kernel_rfl) ?hF ?_; (case hF => (first | exact ⟨‹_›, ‹_›⟩ | (go_simp; done) | (simp [*]; done))); intro hne hxx; have hG : Hid (Grows (fun W => W.cell? ⟨b1, o1 + k, none⟩ = some (.int .i64 z) ∧ W.cell? ⟨b2, o2 + k, none⟩ = some (.int .i64 z))) := (by repeat (first | exact grows_cell _ _ _ | exact grows_true | refine grows_and ?_ ?_)); (repeat (go_big_quiet_step (fail))); clear hG hxx hne; refine wpQuiet_nil ?_; rintro _ ⟨⟨w', hb', hF'⟩, rfl⟩
      clear hF'
      go_wp2
      go_roundw
      case rel => exact ⟨k + 1, by omega, by go_num, bel_tr hb hb'⟩
      case measure => simp [intOf]; omega
    · go_wp2
      go_ret
      exact ⟨rfl, hb⟩

theorem blk_cellA {W : World} {g t : Nat} {cs : Array Value} (h : W.heap[g]? = some (.cells cs t (0, 0))) (i : Nat) {v : Value} (hv : cs[i]? = some v) : W.cell? ⟨g, i, none⟩ = some v := by simp [World.cell?, h, hv]

set_option maxRecDepth 100000 in
set_option maxHeartbeats 1000000 in
theorem sameZone_eq (n : Int) (l : List Bd) (v1 v2 : Value) (w : World) (h1 : IsBds w v1 l) (h2 : IsBds w v2 l) :
    Calls Try.prog 24 #[zoneV n v1, zoneV n v2] w fun e w' => e = .returned (.bool true) ∧ Below w.heap.size w w' := by
  obtain ⟨A1, c1, rfl, l1, m1, a1⟩ := h1
  obtain ⟨A2, c2, rfl, l2, m2, a2⟩ := h2
  have hn := len_i64 l1 m1
  have HA1 := Lib.hid a1
  have HA2 := Lib.hid a2
  clear a1 a2 l1 l2 m1 m2
  unfold zoneV
  go_enter Try.func24, Try.ntmps24
  go_wp2
  refine wp_gen ?_
  intro W3 hW3
  have hb3 : Below w.heap.size w W3 := by rw [hW3]; exact bel_al (bel_one _ _) _
  have z1 : W3.cell? ⟨w.heap.size, 1, none⟩ = some (.slice A1 l.length c1) := by rw [hW3]; exact cell_stays (bel_one _ _) ((new_cells (Below.refl _ _)).1 1)
  have z2 : W3.cell? ⟨w.heap.size + 1, 1, none⟩ = some (.slice A2 l.length c2) := by rw [hW3]; exact blk_cellA (heap_new' _ _ _ (by simp)) 1 rfl
  clear hW3
  go_loopw [5] (fun i wr => ∃ k : Nat, k ≤ l.length ∧ i = .int .i64 k ∧ Below W3.heap.size W3 wr) (fun i _ => l.length - (intOf i).toNat)
  case atStart => exact ⟨0, Nat.zero_le _, rfl, Below.refl _ _⟩
  case round =>
    obtain ⟨k, hk, rfl, hb⟩ := hrel
    have y1 := cell_stays hb z1
    have y2 := cell_stays hb z2
    by_cases hlt : k < l.length
    · obtain ⟨b1, o1, rfl, p0, p1, p2⟩ := HA1.out k l[k] (List.getElem?_eq_getElem hlt)
      obtain ⟨b2, o2, rfl, q0, q1, q2⟩ := HA2.out k l[k] (List.getElem?_eq_getElem hlt)
      replace p0 := cell_stays (bel_tr hb3 hb) p0
      replace p1 := cell_stays (bel_tr hb3 hb) p1
      replace p2 := cell_stays (bel_tr hb3 hb) p2
      replace q0 := cell_stays (bel_tr hb3 hb) q0
      replace q1 := cell_stays (bel_tr hb3 hb) q1
      replace q2 := cell_stays (bel_tr hb3 hb) q2
      have hk' : (k : Int) < (l.length : Int) := by omega
      go_wp2
      refine wp_region_F (fun W => W.cell? ⟨w.heap.size, 1, none⟩ = some (.slice (some ⟨b1, o1, none⟩) l.length c1) ∧ W.cell? ⟨w.heap.size + 1, 1, none⟩ = some (.slice (some ⟨b2, o2, none⟩) l.length c2) ∧ W.cell? ⟨b1, o1 + k * 3, none⟩ = some (.int .i64 l[k].x) ∧ W.cell? ⟨b1, o1 + k * 3 + 1, none⟩ = some (.int .i64 l[k].y) ∧ W.cell? ⟨b1, o1 + k * 3 + 2, none⟩ = some (.int .i64 l[k].most) ∧ W.cell? ⟨b2, o2 + k * 3, none⟩ = some (.int .i64 l[k].x) ∧ W.cell? ⟨b2, o2 + k * 3 + 1, none⟩ = some (.int .i64 l[k].y) ∧ W.cell? ⟨b2, o2 + k * 3 + 2, none⟩ = some (.int .i64 l[k].most)) (by repeat (first | exact grows_cell _ _ _ | exact grows_true | refine grows_and ?_ ?_)) (by kernel_rfl) (by kernel_rfl) ?hF ?_; (case hF => (first | exact ⟨‹_›, ‹_›⟩ | (go_simp; done) | (simp [*]; done))); intro hne hxx; have hG : Hid (Grows (fun W => W.cell? ⟨w.heap.size, 1, none⟩ = some (.slice (some ⟨b1, o1, none⟩) l.length c1) ∧ W.cell? ⟨w.heap.size + 1, 1, none⟩ = some (.slice (some ⟨b2, o2, none⟩) l.length c2) ∧ W.cell? ⟨b1, o1 + k * 3, none⟩ = some (.int .i64 l[k].x) ∧ W.cell? ⟨b1, o1 + k * 3 + 1, none⟩ = some (.int .i64 l[k].y) ∧ W.cell? ⟨b1, o1 + k * 3 + 2, none⟩ = some (.int .i64 l[k].most) ∧ W.cell? ⟨b2, o2 + k * 3, none⟩ = some (.int .i64 l[k].x) ∧ W.cell? ⟨b2, o2 + k * 3 + 1, none⟩ = some (.int .i64 l[k].y) ∧ W.cell? ⟨b2, o2 + k * 3 + 2, none⟩ = some (.int .i64 l[k].most))) := (by repeat (first | exact grows_cell _ _ _ | exact grows_true | refine grows_and ?_ ?_)); (repeat (go_big_quiet_step (fail))); clear hG hxx hne; refine wpQuiet_nil ?_; rintro _ ⟨⟨w', hb', hF'⟩, rfl⟩
      clear hF'
      go_wp2
      go_roundw
      case rel => exact ⟨k + 1, by omega, by go_num, bel_tr hb hb'⟩
      case measure => simp [intOf]; omega
    · go_wp2
      go_ret
      exact ⟨rfl, bel_tr hb3 hb⟩

theorem few_any (n : Int) (A : Option Addr) (m c : Nat) (w : World) : Calls Try.prog 12 #[zoneV n (.slice A m c)] w fun e w' => e = .returned (.bool (decide (n ≤ 6) && decide ((m : Int) ≤ 12))) ∧ Below w.heap.size w w' := by
  unfold zoneV
  by_cases h1 : n ≤ 6
  · go_enter Try.func12, Try.ntmps12
    go_wp2
    go_ret
    exact ⟨by simp [h1], bel_one _ _⟩
  · have HR : Hid ((decide (n ≤ 6) && decide ((m : Int) ≤ 12)) = false) := Lib.hid (by simp [h1])
    go_enter Try.func12, Try.ntmps12
    go_wp2
    go_ret
    rw [HR.out]
    exact ⟨rfl, bel_one _ _⟩
end Go.Proofs.Ytgecbjjcjemcgaa
