/- Equal lists of items and equal channels are the same to the reference. -/
import Derived.Test.YteonfoaemljndaaSame
namespace Go.Proofs.Yteonfoaemljndaa
open Go.RowKit

theorem cls_callB {P : Program} {f : FuncId} {args : Array Value} {w : World} {F : World → Prop} (hG : Grows F) {x : Cls w F} {v : Value}
    (h : ∀ W : World, Below w.heap.size w W → Calls P f args W fun e w' => e = .returned v ∧ Below W.heap.size W w') : Calls P f args x.W fun e w'' => e = .returned v ∧ ∃ y : Cls w F, w'' = y.W :=
  cls_call hG (h x.W x.bel)

set_option maxRecDepth 100000 in
set_option maxHeartbeats 1000000 in
theorem sameItems_eq (l : List Item) (v1 v2 : Value) (w : World) (h1 : IsItems w v1 l) (h2 : IsItems w v2 l) :
    Calls Try.prog 32 #[v1, v2] w fun e w' => e = .returned (.bool true) ∧ Below w.heap.size w w' := by
  obtain ⟨A1, c1, rfl, l1, m1, a1⟩ := h1
  obtain ⟨A2, c2, rfl, l2, m2, a2⟩ := h2
  have hn := len_i64 l1 m1
  have HA1 := Lib.hid a1
  have HA2 := Lib.hid a2
  clear a1 a2 l1 l2 m1 m2
  go_enter Try.func32, Try.ntmps32
  go_wp2
  go_loopw [5] (fun i wr => ∃ k : Nat, k ≤ l.length ∧ i = .int .i64 k ∧ Below w.heap.size w wr) (fun i _ => l.length - (intOf i).toNat)
  case atStart => exact ⟨0, Nat.zero_le _, rfl, Below.refl _ _⟩
  case round =>
    obtain ⟨k, hk, rfl, hb⟩ := hrel
    by_cases hlt : k < l.length
    · obtain ⟨b1, o1, rfl, u1, hu1, p0, p1, p2, p3, p4, p5, p6⟩ := HA1.out k l[k] (List.getElem?_eq_getElem hlt)
      obtain ⟨b2, o2, rfl, u2, hu2, q0, q1, q2, q3, q4, q5, q6⟩ := HA2.out k l[k] (List.getElem?_eq_getElem hlt)
      replace p0 := cell_stays hb p0
      replace p1 := cell_stays hb p1
      replace p2 := cell_stays hb p2
      replace p3 := cell_stays hb p3
      replace p4 := cell_stays hb p4
      replace p5 := cell_stays hb p5
      replace p6 := cell_stays hb p6
      replace q0 := cell_stays hb q0
      replace q1 := cell_stays hb q1
      replace q2 := cell_stays hb q2
      replace q3 := cell_stays hb q3
      replace q4 := cell_stays hb q4
      replace q5 := cell_stays hb q5
      replace q6 := cell_stays hb q6
      have HU1 := Lib.hid (hu1.stays valAt_stays hb)
      have HU2 := Lib.hid (hu2.stays valAt_stays hb)
      obtain ⟨A3, c3, rfl, -⟩ := hu1
      obtain ⟨A4, c4, rfl, -⟩ := hu2
      have hk' : (k : Int) < (l.length : Int) := by omega
      go_wp2
      refine wp_region_F (fun W => W.cell? ⟨b1, o1 + k * 7, none⟩ = some (.int .i64 l[k].kind) ∧ W.cell? ⟨b1, o1 + k * 7 + 1, none⟩ = some (.int .i64 l[k].source) ∧ W.cell? ⟨b1, o1 + k * 7 + 2, none⟩ = some (.int .i64 l[k].seq) ∧ W.cell? ⟨b1, o1 + k * 7 + 3, none⟩ = some (.int .i64 l[k].type) ∧ W.cell? ⟨b1, o1 + k * 7 + 4, none⟩ = some (.int .i64 l[k].time) ∧ W.cell? ⟨b1, o1 + k * 7 + 5, none⟩ = some (.slice A3 l[k].values.length c3) ∧ W.cell? ⟨b1, o1 + k * 7 + 6, none⟩ = some (.int .i64 l[k].number) ∧ W.cell? ⟨b2, o2 + k * 7, none⟩ = some (.int .i64 l[k].kind) ∧ W.cell? ⟨b2, o2 + k * 7 + 1, none⟩ = some (.int .i64 l[k].source) ∧ W.cell? ⟨b2, o2 + k * 7 + 2, none⟩ = some (.int .i64 l[k].seq) ∧ W.cell? ⟨b2, o2 + k * 7 + 3, none⟩ = some (.int .i64 l[k].type) ∧ W.cell? ⟨b2, o2 + k * 7 + 4, none⟩ = some (.int .i64 l[k].time) ∧ W.cell? ⟨b2, o2 + k * 7 + 5, none⟩ = some (.slice A4 l[k].values.length c4) ∧ W.cell? ⟨b2, o2 + k * 7 + 6, none⟩ = some (.int .i64 l[k].number)) (by repeat (first | exact grows_cell _ _ _ | exact grows_true | refine grows_and ?_ ?_)) (by kernel_rfl) (by kernel_rfl) ?hF ?_; (case hF => (first | exact ⟨‹_›, ‹_›⟩ | (go_simp; done) | (simp [*]; done))); intro hne hxx; have hG : Hid (Grows (fun W => W.cell? ⟨b1, o1 + k * 7, none⟩ = some (.int .i64 l[k].kind) ∧ W.cell? ⟨b1, o1 + k * 7 + 1, none⟩ = some (.int .i64 l[k].source) ∧ W.cell? ⟨b1, o1 + k * 7 + 2, none⟩ = some (.int .i64 l[k].seq) ∧ W.cell? ⟨b1, o1 + k * 7 + 3, none⟩ = some (.int .i64 l[k].type) ∧ W.cell? ⟨b1, o1 + k * 7 + 4, none⟩ = some (.int .i64 l[k].time) ∧ W.cell? ⟨b1, o1 + k * 7 + 5, none⟩ = some (.slice A3 l[k].values.length c3) ∧ W.cell? ⟨b1, o1 + k * 7 + 6, none⟩ = some (.int .i64 l[k].number) ∧ W.cell? ⟨b2, o2 + k * 7, none⟩ = some (.int .i64 l[k].kind) ∧ W.cell? ⟨b2, o2 + k * 7 + 1, none⟩ = some (.int .i64 l[k].source) ∧ W.cell? ⟨b2, o2 + k * 7 + 2, none⟩ = some (.int .i64 l[k].seq) ∧ W.cell? ⟨b2, o2 + k * 7 + 3, none⟩ = some (.int .i64 l[k].type) ∧ W.cell? ⟨b2, o2 + k * 7 + 4, none⟩ = some (.int .i64 l[k].time) ∧ W.cell? ⟨b2, o2 + k * 7 + 5, none⟩ = some (.slice A4 l[k].values.length c4) ∧ W.cell? ⟨b2, o2 + k * 7 + 6, none⟩ = some (.int .i64 l[k].number))) := (by repeat (first | exact grows_cell _ _ _ | exact grows_true | refine grows_and ?_ ?_)); (repeat (go_big_quiet_step ((go_at_call 27; exact cls_callB hG (fun W hW => sameItem_eq l[k] _ _ W (HU1.out.stays valAt_stays hW) (HU2.out.stays valAt_stays hW)))))); clear hG hxx hne; refine wpQuiet_nil ?_; rintro _ ⟨⟨w', hb', hF'⟩, rfl⟩
      clear hF'
      go_wp2
      go_roundw
      case rel => exact ⟨k + 1, by omega, by go_num, bel_tr hb hb'⟩
      case measure => simp [intOf]; omega
    · go_wp2
      go_ret
      exact ⟨rfl, hb⟩

set_option maxRecDepth 100000 in
set_option maxHeartbeats 1000000 in
theorem same_eq (l : List Queue) (v1 v2 : Value) (w : World) (h1 : IsQueues w v1 l) (h2 : IsQueues w v2 l) :
    Calls Try.prog 16 #[v1, v2] w fun e w' => e = .returned (.bool true) ∧ Below w.heap.size w w' := by
  obtain ⟨A1, c1, rfl, l1, m1, a1⟩ := h1
  obtain ⟨A2, c2, rfl, l2, m2, a2⟩ := h2
  have hn := len_i64 l1 m1
  have HA1 := Lib.hid a1
  have HA2 := Lib.hid a2
  clear a1 a2 l1 l2 m1 m2
  go_enter Try.func16, Try.ntmps16
  go_wp2
  go_loopw [5] (fun i wr => ∃ k : Nat, k ≤ l.length ∧ i = .int .i64 k ∧ Below w.heap.size w wr) (fun i _ => l.length - (intOf i).toNat)
  case atStart => exact ⟨0, Nat.zero_le _, rfl, Below.refl _ _⟩
  case round =>
    obtain ⟨k, hk, rfl, hb⟩ := hrel
    by_cases hlt : k < l.length
    · obtain ⟨b1, o1, rfl, u1, hu1, p0, p1, p2⟩ := HA1.out k l[k] (List.getElem?_eq_getElem hlt)
      obtain ⟨b2, o2, rfl, u2, hu2, q0, q1, q2⟩ := HA2.out k l[k] (List.getElem?_eq_getElem hlt)
      replace p0 := cell_stays hb p0
      replace p1 := cell_stays hb p1
      replace p2 := cell_stays hb p2
      replace q0 := cell_stays hb q0
      replace q1 := cell_stays hb q1
      replace q2 := cell_stays hb q2
      have HU1 := Lib.hid (hu1.stays itemAt_stays hb)
      have HU2 := Lib.hid (hu2.stays itemAt_stays hb)
      obtain ⟨A3, c3, rfl, -⟩ := hu1
      obtain ⟨A4, c4, rfl, -⟩ := hu2
      have hk' : (k : Int) < (l.length : Int) := by omega
      go_wp2
      refine wp_region_F (fun W => W.cell? ⟨b1, o1 + k * 3, none⟩ = some (.int .i64 l[k].frm) ∧ W.cell? ⟨b1, o1 + k * 3 + 1, none⟩ = some (.int .i64 l[k].to) ∧ W.cell? ⟨b1, o1 + k * 3 + 2, none⟩ = some (.slice A3 l[k].items.length c3) ∧ W.cell? ⟨b2, o2 + k * 3, none⟩ = some (.int .i64 l[k].frm) ∧ W.cell? ⟨b2, o2 + k * 3 + 1, none⟩ = some (.int .i64 l[k].to) ∧ W.cell? ⟨b2, o2 + k * 3 + 2, none⟩ = some (.slice A4 l[k].items.length c4)) (by repeat (first | exact grows_cell _ _ _ | exact grows_true | refine grows_and ?_ ?_)) (by kernel_rfl) (by kernel_rfl) ?hF ?_; (case hF => (first | exact ⟨‹_›, ‹_›⟩ | (go_simp; done) | (simp [*]; done))); intro hne hxx; have hG : Hid (Grows (fun W => W.cell? ⟨b1, o1 + k * 3, none⟩ = some (.int .i64 l[k].frm) ∧ W.cell? ⟨b1, o1 + k * 3 + 1, none⟩ = some (.int .i64 l[k].to) ∧ W.cell? ⟨b1, o1 + k * 3 + 2, none⟩ = some (.slice A3 l[k].items.length c3) ∧ W.cell? ⟨b2, o2 + k * 3, none⟩ = some (.int .i64 l[k].frm) ∧ W.cell? ⟨b2, o2 + k * 3 + 1, none⟩ = some (.int .i64 l[k].to) ∧ W.cell? ⟨b2, o2 + k * 3 + 2, none⟩ = some (.slice A4 l[k].items.length c4))) := (by repeat (first | exact grows_cell _ _ _ | exact grows_true | refine grows_and ?_ ?_)); (repeat (go_big_quiet_step ((go_at_call 32; exact cls_callB hG (fun W hW => sameItems_eq l[k].items _ _ W (HU1.out.stays itemAt_stays hW) (HU2.out.stays itemAt_stays hW)))))); clear hG hxx hne; refine wpQuiet_nil ?_; rintro _ ⟨⟨w', hb', hF'⟩, rfl⟩
      clear hF'
      go_wp2
      go_roundw
      case rel => exact ⟨k + 1, by omega, by go_num, bel_tr hb hb'⟩
      case measure => simp [intOf]; omega
    · go_wp2
      go_ret
      exact ⟨rfl, hb⟩
end Go.Proofs.Yteonfoaemljndaa
