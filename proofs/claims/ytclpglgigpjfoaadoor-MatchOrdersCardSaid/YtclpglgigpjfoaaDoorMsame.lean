/- The reference's Same of values, of events, of lists of events, of environments: equal lists are the same. -/
import Derived.Test.YtclpglgigpjfoaaDoorMrstrc
namespace Go.Proofs.YtclpglgigpjfoaaDoor
open Go.RowKit

def vlV (x : Vl) : Value := .agg #[.int .i64 x.kind, .int .i64 x.num, .string x.text]
theorem vl_neq (a : Vl) (W : World) : (binOp .neq 79 (vlV a) (vlV a)).run Tryd.prog W = .ok (.bool false) W := by
  have u3 := Tryd.underlying3
  have a3 := Tryd.isAgg3
  have z3 := Tryd.sizeOf3
  have u9 : Tryd.prog.underlying 9 = some .string := by kernel_rfl
  have a9 := Tryd.isAgg9
  have z9 := Tryd.sizeOf9
  have hS : Tryd.prog.underlying 79 = some (.struct (Tryd.prog.fieldsOf 79)) := by kernel_rfl
  have hp : Tryd.prog.stoodInHeld 79 = false := by kernel_rfl
  unfold vlV
  rw [run_neq_struct, show (10000 : Nat) = 9999 + 1 from rfl, run_equalIn_agg W 9999 79 _ _ hS hp]
  simp only [Program.fieldsOf, Tryd.underlying79]
  go_simp

set_option maxRecDepth 100000 in
set_option maxHeartbeats 1000000 in
theorem rvsame_eq (l : List Vl) (v1 v2 : Value) (w : World) (h1 : IsVls w v1 l) (h2 : IsVls w v2 l) :
    Calls Tryd.prog 51 #[v1, v2] w fun e w' => e = .returned (.bool true) ∧ Below w.heap.size w w' := by
  obtain ⟨A1, c1, rfl, l1, m1, a1⟩ := h1
  obtain ⟨A2, c2, rfl, l2, m2, a2⟩ := h2
  have hn := len_i64 l1 m1
  have HA1 := Lib.hid a1
  have HA2 := Lib.hid a2
  clear a1 a2 l1 l2 m1 m2
  go_enter Tryd.func51, Tryd.ntmps51
  go_wp2
  go_loopw [5] (fun i wr => ∃ k : Nat, k ≤ l.length ∧ i = .int .i64 k ∧ Below w.heap.size w wr) (fun i _ => l.length - (intOf i).toNat)
  case atStart => exact ⟨0, Nat.zero_le _, rfl, Below.refl _ _⟩
  case round =>
    obtain ⟨k, hk, rfl, hb⟩ := hrel
    by_cases hlt : k < l.length
    · obtain ⟨b1, o1, rfl, p0, p1, p2⟩ := HA1.out k l[k] (List.getElem?_eq_getElem hlt)
      obtain ⟨b2, o2, rfl, q0, q1, q2⟩ := HA2.out k l[k] (List.getElem?_eq_getElem hlt)
      replace p0 := cell_stays hb p0
      replace p1 := cell_stays hb p1
      replace p2 := cell_stays hb p2
      replace q0 := cell_stays hb q0
      replace q1 := cell_stays hb q1
      replace q2 := cell_stays hb q2
      have hk' : (k : Int) < (l.length : Int) := by omega
      obtain ⟨x, hx⟩ : ∃ x, x = l[k] := ⟨_, rfl⟩
      rw [← hx] at p0 p1 p2 q0 q1 q2
      clear hx
      have he := fun W => vl_neq x W
      unfold vlV at he
      go_wp2_with fail
      refine wp_region_F (fun W => W.cell? ⟨b1, o1 + k * 3, none⟩ = some (.int .i64 x.kind) ∧ W.cell? ⟨b1, o1 + k * 3 + 1, none⟩ = some (.int .i64 x.num) ∧ W.cell? ⟨b1, o1 + k * 3 + 2, none⟩ = some (.string x.text) ∧ W.cell? ⟨b2, o2 + k * 3, none⟩ = some (.int .i64 x.kind) ∧ W.cell? ⟨b2, o2 + k * 3 + 1, none⟩ = some (.int .i64 x.num) ∧ W.cell? ⟨b2, o2 + k * 3 + 2, none⟩ = some (.string x.text)) (by repeat (first | exact grows_cell _ _ _ | exact grows_true | refine grows_and ?_ ?_)) (by kernel_rfl) (by kernel_rfl) ?hF ?_; (case hF => (first | exact ⟨‹_›, ‹_›⟩ | (go_simp; done) | (simp [*]; done) | (repeat' (first | (refine And.intro ?_ ?_) | (go_simp; done) | exact cell_stays (bel_al (Below.refl _ _) _) (by assumption) | assumption)))); intro hne hxx; have hG : Hid (Grows (fun W => W.cell? ⟨b1, o1 + k * 3, none⟩ = some (.int .i64 x.kind) ∧ W.cell? ⟨b1, o1 + k * 3 + 1, none⟩ = some (.int .i64 x.num) ∧ W.cell? ⟨b1, o1 + k * 3 + 2, none⟩ = some (.string x.text) ∧ W.cell? ⟨b2, o2 + k * 3, none⟩ = some (.int .i64 x.kind) ∧ W.cell? ⟨b2, o2 + k * 3 + 1, none⟩ = some (.int .i64 x.num) ∧ W.cell? ⟨b2, o2 + k * 3 + 2, none⟩ = some (.string x.text))) := (by repeat (first | exact grows_cell _ _ _ | exact grows_true | refine grows_and ?_ ?_)); (repeat (go_big_quiet_step (fail))); clear hG hxx hne; refine wpQuiet_nil ?_; rintro _ ⟨⟨w', hb', hF'⟩, rfl⟩
      clear hF' he
      go_wp2
      go_roundw
      case rel => exact ⟨k + 1, by omega, by go_num, bel_tr hb hb'⟩
      case measure => simp [intOf]; omega
    · go_wp2
      go_ret
      exact ⟨rfl, hb⟩

set_option maxRecDepth 100000 in
set_option maxHeartbeats 1000000 in
theorem requal_eq (x : Evt) (v1 v2 : Value) (w : World) (h1 : IsVls w v1 x.vals) (h2 : IsVls w v2 x.vals) :
    Calls Tryd.prog 35 #[evtV x v1, evtV x v2] w fun e w' => e = .returned (.bool true) ∧ Below w.heap.size w w' := by
  have HV1 := Lib.hid h1
  have HV2 := Lib.hid h2
  obtain ⟨A1, c1, rfl, -⟩ := h1
  obtain ⟨A2, c2, rfl, -⟩ := h2
  unfold evtV
  have he : ∀ W, (binOp .eql 39 (refV (eRef x)) (refV (eRef x))).run Tryd.prog W = .ok (.bool true) W := fun W => by rw [ref_eql]; simp [refEq]
  unfold refV eRef at he
  go_enter Tryd.func35, Tryd.ntmps35
  go_wp2_with fail
  refine wp_region_F (fun W => W.cell? ⟨w.heap.size, 0, none⟩ = some (.int .i64 x.src) ∧ W.cell? ⟨w.heap.size, 1, none⟩ = some (.int .i64 x.sq) ∧ W.cell? ⟨w.heap.size, 2, none⟩ = some (.int .i64 x.ty) ∧ W.cell? ⟨w.heap.size, 3, none⟩ = some (.int .i64 x.tm) ∧ W.cell? ⟨w.heap.size, 4, none⟩ = some (.slice A1 x.vals.length c1) ∧ W.cell? ⟨w.heap.size + 1, 0, none⟩ = some (.int .i64 x.src) ∧ W.cell? ⟨w.heap.size + 1, 1, none⟩ = some (.int .i64 x.sq) ∧ W.cell? ⟨w.heap.size + 1, 2, none⟩ = some (.int .i64 x.ty) ∧ W.cell? ⟨w.heap.size + 1, 3, none⟩ = some (.int .i64 x.tm) ∧ W.cell? ⟨w.heap.size + 1, 4, none⟩ = some (.slice A2 x.vals.length c2)) (by repeat (first | exact grows_cell _ _ _ | exact grows_true | refine grows_and ?_ ?_)) (by kernel_rfl) (by kernel_rfl) ?hF ?_; (case hF => (first | exact ⟨‹_›, ‹_›⟩ | (go_simp; done) | (simp [*]; done) | (repeat' (first | (refine And.intro ?_ ?_) | (go_simp; done) | exact cell_stays (bel_al (Below.refl _ _) _) (by assumption) | assumption)))); intro hne hxx; have hG : Hid (Grows (fun W => W.cell? ⟨w.heap.size, 0, none⟩ = some (.int .i64 x.src) ∧ W.cell? ⟨w.heap.size, 1, none⟩ = some (.int .i64 x.sq) ∧ W.cell? ⟨w.heap.size, 2, none⟩ = some (.int .i64 x.ty) ∧ W.cell? ⟨w.heap.size, 3, none⟩ = some (.int .i64 x.tm) ∧ W.cell? ⟨w.heap.size, 4, none⟩ = some (.slice A1 x.vals.length c1) ∧ W.cell? ⟨w.heap.size + 1, 0, none⟩ = some (.int .i64 x.src) ∧ W.cell? ⟨w.heap.size + 1, 1, none⟩ = some (.int .i64 x.sq) ∧ W.cell? ⟨w.heap.size + 1, 2, none⟩ = some (.int .i64 x.ty) ∧ W.cell? ⟨w.heap.size + 1, 3, none⟩ = some (.int .i64 x.tm) ∧ W.cell? ⟨w.heap.size + 1, 4, none⟩ = some (.slice A2 x.vals.length c2))) := (by repeat (first | exact grows_cell _ _ _ | exact grows_true | refine grows_and ?_ ?_)); (repeat (go_big_quiet_step (first | (go_at_call 26; exact cls_call hG (rRef_bel _ _ _ _ _ _ _ _)) | (go_at_call 51; exact cls_callB hG (fun W hW => rvsame_eq x.vals _ _ W (HV1.out.stays vlAt_stays (bel_tr (bel_tr (bel_one _ _) (bel_one _ _)) hW)) (HV2.out.stays vlAt_stays (bel_tr (bel_tr (bel_one _ _) (bel_one _ _)) hW))))))); clear hG hxx hne; refine wpQuiet_nil ?_; rintro wq ⟨⟨w', hb', hF'⟩, rfl⟩
  clear hF'
  go_wp2_with fail
  go_ret
  exact ⟨rfl, bel_tr (bel_tr (bel_one _ _) (bel_one _ _)) hb'⟩

set_option maxRecDepth 100000 in
set_option maxHeartbeats 1000000 in
theorem resame_eq (l : List Evt) (v1 v2 : Value) (w : World) (h1 : IsEvts w v1 l) (h2 : IsEvts w v2 l) :
    Calls Tryd.prog 17 #[v1, v2] w fun e w' => e = .returned (.bool true) ∧ Below w.heap.size w w' := by
  obtain ⟨A1, c1, rfl, l1, m1, a1⟩ := h1
  obtain ⟨A2, c2, rfl, l2, m2, a2⟩ := h2
  have hn := len_i64 l1 m1
  have HA1 := Lib.hid a1
  have HA2 := Lib.hid a2
  clear a1 a2 l1 l2 m1 m2
  go_enter Tryd.func17, Tryd.ntmps17
  go_wp2
  go_loopw [5] (fun i wr => ∃ k : Nat, k ≤ l.length ∧ i = .int .i64 k ∧ Below w.heap.size w wr) (fun i _ => l.length - (intOf i).toNat)
  case atStart => exact ⟨0, Nat.zero_le _, rfl, Below.refl _ _⟩
  case round =>
    obtain ⟨k, hk, rfl, hb⟩ := hrel
    by_cases hlt : k < l.length
    · obtain ⟨b1, o1, rfl, u1, hu1, p0, p1, p2, p3, p4⟩ := HA1.out k l[k] (List.getElem?_eq_getElem hlt)
      obtain ⟨b2, o2, rfl, u2, hu2, q0, q1, q2, q3, q4⟩ := HA2.out k l[k] (List.getElem?_eq_getElem hlt)
      replace p0 := cell_stays hb p0
      replace p1 := cell_stays hb p1
      replace p2 := cell_stays hb p2
      replace p3 := cell_stays hb p3
      replace p4 := cell_stays hb p4
      replace q0 := cell_stays hb q0
      replace q1 := cell_stays hb q1
      replace q2 := cell_stays hb q2
      replace q3 := cell_stays hb q3
      replace q4 := cell_stays hb q4
      have HU1 := Lib.hid (hu1.stays vlAt_stays hb)
      have HU2 := Lib.hid (hu2.stays vlAt_stays hb)
      obtain ⟨A3, c3, rfl, -⟩ := hu1
      obtain ⟨A4, c4, rfl, -⟩ := hu2
      have hk' : (k : Int) < (l.length : Int) := by omega
      obtain ⟨x, hx⟩ : ∃ x, x = l[k] := ⟨_, rfl⟩
      rw [← hx] at p0 p1 p2 p3 p4 q0 q1 q2 q3 q4 HU1 HU2
      clear hx
      go_wp2_with fail
      refine wp_region_F (fun W => W.cell? ⟨b1, o1 + k * 5, none⟩ = some (.int .i64 x.src) ∧ W.cell? ⟨b1, o1 + k * 5 + 1, none⟩ = some (.int .i64 x.sq) ∧ W.cell? ⟨b1, o1 + k * 5 + 2, none⟩ = some (.int .i64 x.ty) ∧ W.cell? ⟨b1, o1 + k * 5 + 3, none⟩ = some (.int .i64 x.tm) ∧ W.cell? ⟨b1, o1 + k * 5 + 4, none⟩ = some (.slice A3 x.vals.length c3) ∧ W.cell? ⟨b2, o2 + k * 5, none⟩ = some (.int .i64 x.src) ∧ W.cell? ⟨b2, o2 + k * 5 + 1, none⟩ = some (.int .i64 x.sq) ∧ W.cell? ⟨b2, o2 + k * 5 + 2, none⟩ = some (.int .i64 x.ty) ∧ W.cell? ⟨b2, o2 + k * 5 + 3, none⟩ = some (.int .i64 x.tm) ∧ W.cell? ⟨b2, o2 + k * 5 + 4, none⟩ = some (.slice A4 x.vals.length c4)) (by repeat (first | exact grows_cell _ _ _ | exact grows_true | refine grows_and ?_ ?_)) (by kernel_rfl) (by kernel_rfl) ?hF ?_; (case hF => (first | exact ⟨‹_›, ‹_›⟩ | (go_simp; done) | (simp [*]; done) | (repeat' (first | (refine And.intro ?_ ?_) | (go_simp; done) | exact cell_stays (bel_al (Below.refl _ _) _) (by assumption) | assumption)))); intro hne hxx; have hG : Hid (Grows (fun W => W.cell? ⟨b1, o1 + k * 5, none⟩ = some (.int .i64 x.src) ∧ W.cell? ⟨b1, o1 + k * 5 + 1, none⟩ = some (.int .i64 x.sq) ∧ W.cell? ⟨b1, o1 + k * 5 + 2, none⟩ = some (.int .i64 x.ty) ∧ W.cell? ⟨b1, o1 + k * 5 + 3, none⟩ = some (.int .i64 x.tm) ∧ W.cell? ⟨b1, o1 + k * 5 + 4, none⟩ = some (.slice A3 x.vals.length c3) ∧ W.cell? ⟨b2, o2 + k * 5, none⟩ = some (.int .i64 x.src) ∧ W.cell? ⟨b2, o2 + k * 5 + 1, none⟩ = some (.int .i64 x.sq) ∧ W.cell? ⟨b2, o2 + k * 5 + 2, none⟩ = some (.int .i64 x.ty) ∧ W.cell? ⟨b2, o2 + k * 5 + 3, none⟩ = some (.int .i64 x.tm) ∧ W.cell? ⟨b2, o2 + k * 5 + 4, none⟩ = some (.slice A4 x.vals.length c4))) := (by repeat (first | exact grows_cell _ _ _ | exact grows_true | refine grows_and ?_ ?_)); (repeat (go_big_quiet_step ((go_at_call 35; exact cls_callB hG (fun W hW => requal_eq x _ _ W (HU1.out.stays vlAt_stays hW) (HU2.out.stays vlAt_stays hW)))))); clear hG hxx hne; refine wpQuiet_nil ?_; rintro _ ⟨⟨w', hb', hF'⟩, rfl⟩
      clear hF'
      go_wp2
      go_roundw
      case rel => exact ⟨k + 1, by omega, by go_num, bel_tr hb hb'⟩
      case measure => simp [intOf]; omega
    · go_wp2
      go_ret
      exact ⟨rfl, hb⟩
end Go.Proofs.YtclpglgigpjfoaaDoor
