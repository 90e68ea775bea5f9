/- The reference's Same of values, Equal and Has of events, at whatever arguments; slices.IsSortedFunc at events in order. -/
import Derived.Test.YtclpglgigpjfoaaGreatDoorMsame
namespace Go.Proofs.YtclpglgigpjfoaaGreatDoor
open Go.RowKit

def vlEq (a b : Vl) : Bool := a.kind == b.kind && (a.num == b.num && a.text.toList == b.text.toList)
theorem vlEq_self (a : Vl) : vlEq a a = true := by simp [vlEq]
theorem vl_neq2 (a b : Vl) (W : World) : (binOp .neq 88 (vlV a) (vlV b)).run Tryz.prog W = .ok (.bool (!vlEq a b)) W := by
  have u3 := Tryz.underlying3
  have a3 := Tryz.isAgg3
  have z3 := Tryz.sizeOf3
  have u9 : Tryz.prog.underlying 9 = some .string := by kernel_rfl
  have a9 := Tryz.isAgg9
  have z9 := Tryz.sizeOf9
  have hS : Tryz.prog.underlying 88 = some (.struct (Tryz.prog.fieldsOf 88)) := by kernel_rfl
  have hp : Tryz.prog.stoodInHeld 88 = false := by kernel_rfl
  unfold vlV
  rw [run_neq_struct, show (10000 : Nat) = 9999 + 1 from rfl, run_equalIn_agg W 9999 88 _ _ hS hp]
  simp only [Program.fieldsOf, Tryz.underlying88]
  go_simp
  by_cases h1 : a.kind = b.kind <;> by_cases h2 : a.num = b.num <;> by_cases h3 : a.text.toList = b.text.toList <;> simp [vlEq, h1, h2, h3]
def vlsEq : List Vl → List Vl → Bool
  | [], [] => true
  | a :: l, b :: m => vlEq a b && vlsEq l m
  | _, _ => false
theorem vlsEq_self : ∀ l, vlsEq l l = true
  | [] => rfl
  | a :: l => by simp [vlsEq, vlEq_self, vlsEq_self l]
theorem vlsEq_len : ∀ {l m : List Vl}, l.length ≠ m.length → vlsEq l m = false
  | [], [], h => absurd rfl h
  | [], _ :: _, _ => rfl
  | _ :: _, [], _ => rfl
  | a :: l, b :: m, h => by simp [vlsEq, vlsEq_len (l := l) (m := m) (by simpa using h)]
theorem vlsEq_at {l m : List Vl} {k : Nat} {x y : Vl} (hx : l[k]? = some x) (hy : m[k]? = some y) : vlsEq (l.drop k) (m.drop k) = (vlEq x y && vlsEq (l.drop (k + 1)) (m.drop (k + 1))) := by
  obtain ⟨h1, rfl⟩ := List.getElem?_eq_some_iff.1 hx
  obtain ⟨h2, rfl⟩ := List.getElem?_eq_some_iff.1 hy
  rw [List.drop_eq_getElem_cons h1, List.drop_eq_getElem_cons h2]
  rfl

set_option maxRecDepth 100000 in
set_option maxHeartbeats 1000000 in
theorem rvsame_any (l m : List Vl) (v1 v2 : Value) (w : World) (h1 : IsVls w v1 l) (h2 : IsVls w v2 m) :
    Calls Tryz.prog 45 #[v1, v2] w fun e w' => e = .returned (.bool (vlsEq l m)) ∧ Below w.heap.size w w' := by
  obtain ⟨A1, c1, rfl, l1, m1, a1⟩ := h1
  obtain ⟨A2, c2, rfl, l2, m2, a2⟩ := h2
  have hn := len_i64 l1 m1
  have hn2 := len_i64 l2 m2
  have HA1 := Lib.hid a1
  have HA2 := Lib.hid a2
  clear a1 a2 l1 l2 m1 m2
  by_cases hlen : l.length = m.length
  case neg =>
    have hle : ¬ (l.length : Int) = (m.length : Int) := by omega
    rw [vlsEq_len hlen]
    clear hlen
    go_enter Tryz.func45, Tryz.ntmps45
    go_wp2
    go_ret
    exact ⟨rfl, Below.refl _ _⟩
  have HLEN := Lib.hid hlen
  rw [← hlen]
  obtain ⟨R, hR⟩ : ∃ R, vlsEq l m = R := ⟨_, rfl⟩
  have HR := Lib.hid hR
  rw [hR]
  clear hlen hn2 hR
  go_enter Tryz.func45, Tryz.ntmps45
  go_wp2
  go_loopw [5] (fun i wr => ∃ k : Nat, k ≤ l.length ∧ i = .int .i64 k ∧ Hid (vlsEq (l.drop k) (m.drop k) = R) ∧ Below w.heap.size w wr) (fun i _ => l.length - (intOf i).toNat)
  case atStart => exact ⟨0, Nat.zero_le _, rfl, Lib.hid HR.out, Below.refl _ _⟩
  case round =>
    obtain ⟨k, hk, rfl, hi, hb⟩ := hrel
    by_cases hlt : k < l.length
    · have hkm : k < m.length := by rw [← HLEN.out]; exact hlt
      obtain ⟨b1, o1, rfl, p0, p1, p2⟩ := HA1.out k l[k] (List.getElem?_eq_getElem hlt)
      obtain ⟨b2, o2, rfl, q0, q1, q2⟩ := HA2.out k m[k] (List.getElem?_eq_getElem hkm)
      have hg1 := Lib.hid (List.getElem?_eq_getElem hlt)
      have hg2 := Lib.hid (List.getElem?_eq_getElem hkm)
      replace p0 := cell_stays hb p0
      replace p1 := cell_stays hb p1
      replace p2 := cell_stays hb p2
      replace q0 := cell_stays hb q0
      replace q1 := cell_stays hb q1
      replace q2 := cell_stays hb q2
      have hk' : (k : Int) < (l.length : Int) := by omega
      obtain ⟨x, hx⟩ : ∃ x, x = l[k] := ⟨_, rfl⟩
      obtain ⟨y, hy⟩ : ∃ y, y = m[k] := ⟨_, rfl⟩
      rw [← hx] at p0 p1 p2 hg1
      rw [← hy] at q0 q1 q2 hg2
      clear hx hy hkm
      obtain ⟨r, hr⟩ : ∃ r, vlEq x y = r := ⟨_, rfl⟩
      have HV := Lib.hid hr
      have he : ∀ W, (binOp .neq 88 (vlV x) (vlV y)).run Tryz.prog W = .ok (.bool (!r)) W := fun W => by rw [vl_neq2, hr]
      unfold vlV at he
      clear hr
      go_wp2_with fail
      refine wp_region_F (fun W => W.cell? ⟨b1, o1 + k * 3, none⟩ = some (.int .i64 x.kind) ∧ W.cell? ⟨b1, o1 + k * 3 + 1, none⟩ = some (.int .i64 x.num) ∧ W.cell? ⟨b1, o1 + k * 3 + 2, none⟩ = some (.string x.text) ∧ W.cell? ⟨b2, o2 + k * 3, none⟩ = some (.int .i64 y.kind) ∧ W.cell? ⟨b2, o2 + k * 3 + 1, none⟩ = some (.int .i64 y.num) ∧ W.cell? ⟨b2, o2 + k * 3 + 2, none⟩ = some (.string y.text)) (by repeat (first | exact grows_cell _ _ _ | exact grows_true | refine grows_and ?_ ?_)) (by kernel_rfl) (by kernel_rfl) ?hF ?_; (case hF => (first | exact ⟨‹_›, ‹_›⟩ | (go_simp; done) | (simp [*]; done) | (repeat' (first | (refine And.intro ?_ ?_) | (go_simp; done) | exact cell_stays (bel_al (Below.refl _ _) _) (by assumption) | assumption)))); intro hne hxx; have hG : Hid (Grows (fun W => W.cell? ⟨b1, o1 + k * 3, none⟩ = some (.int .i64 x.kind) ∧ W.cell? ⟨b1, o1 + k * 3 + 1, none⟩ = some (.int .i64 x.num) ∧ W.cell? ⟨b1, o1 + k * 3 + 2, none⟩ = some (.string x.text) ∧ W.cell? ⟨b2, o2 + k * 3, none⟩ = some (.int .i64 y.kind) ∧ W.cell? ⟨b2, o2 + k * 3 + 1, none⟩ = some (.int .i64 y.num) ∧ W.cell? ⟨b2, o2 + k * 3 + 2, none⟩ = some (.string y.text))) := (by repeat (first | exact grows_cell _ _ _ | exact grows_true | refine grows_and ?_ ?_)); (repeat (go_big_quiet_step (fail))); clear hG hxx hne; refine wpQuiet_nil ?_; rintro wq ⟨⟨w', hb', hF'⟩, rfl⟩
      clear hF' he
      cases r with
      | true =>
        go_wp2_with fail
        go_roundw
        case rel =>
          refine ⟨k + 1, by omega, by go_num, Lib.hid ?_, bel_tr hb hb'⟩
          have h := hi.out
          rw [vlsEq_at hg1.out hg2.out, HV.out, Bool.true_and] at h
          exact h
        case measure => simp [intOf]; omega
      | false =>
        have hr0 : R = false := by
          have h := hi.out
          rw [vlsEq_at hg1.out hg2.out, HV.out, Bool.false_and] at h
          exact h.symm
        subst hr0
        go_wp2_with fail
        go_ret
        exact ⟨rfl, bel_tr hb hb'⟩
    · have hr1 : R = true := by
        have h := hi.out
        rw [List.drop_of_length_le (by omega), List.drop_of_length_le (by have := HLEN.out; omega)] at h
        exact h.symm
      subst hr1
      have hk' : ¬ (k : Int) < (l.length : Int) := by omega
      go_wp2
      go_ret
      exact ⟨rfl, hb⟩

def evEq (x y : Evt) : Bool := refEq (eRef x) (eRef y) && (decide (x.ty = y.ty) && vlsEq x.vals y.vals)
theorem evEq_self (x : Evt) : evEq x x = true := by simp [evEq, refEq, vlsEq_self]
set_option maxRecDepth 100000 in
set_option maxHeartbeats 1000000 in
theorem requal_any (x y : Evt) (v1 v2 : Value) (w : World) (h1 : IsVls w v1 x.vals) (h2 : IsVls w v2 y.vals) :
    Calls Tryz.prog 75 #[evtV x v1, evtV y v2] w fun e w' => e = .returned (.bool (evEq x y)) ∧ Below w.heap.size w w' := by
  have HSM := Lib.hid (fun W (hb : Below w.heap.size w W) => rvsame_any x.vals y.vals v1 v2 W (h1.stays vlAt_stays hb) (h2.stays vlAt_stays hb))
  obtain ⟨A1, c1, rfl, -⟩ := h1
  obtain ⟨A2, c2, rfl, -⟩ := h2
  unfold evtV evEq
  obtain ⟨r, hr⟩ : ∃ r, refEq (eRef x) (eRef y) = r := ⟨_, rfl⟩
  have he : ∀ W, (binOp .eql 74 (refV (eRef x)) (refV (eRef y))).run Tryz.prog W = .ok (.bool r) W := fun W => by rw [ref_eql, hr]
  unfold refV eRef at he
  rw [hr]
  clear hr
  obtain ⟨r3, hr3⟩ : ∃ r3, vlsEq x.vals y.vals = r3 := ⟨_, rfl⟩
  rw [hr3] at HSM ⊢
  clear hr3
  cases r
  · go_enter Tryz.func75, Tryz.ntmps75
    go_wp2_with fail
    refine wp_region_F (fun W => W.cell? ⟨w.heap.size, 0, none⟩ = some (.int .i64 x.src) ∧ W.cell? ⟨w.heap.size, 1, none⟩ = some (.int .i64 x.sq) ∧ W.cell? ⟨w.heap.size, 2, none⟩ = some (.int .i64 x.ty) ∧ W.cell? ⟨w.heap.size, 3, none⟩ = some (.int .i64 x.tm) ∧ W.cell? ⟨w.heap.size, 4, none⟩ = some (.slice A1 x.vals.length c1) ∧ W.cell? ⟨w.heap.size + 1, 0, none⟩ = some (.int .i64 y.src) ∧ W.cell? ⟨w.heap.size + 1, 1, none⟩ = some (.int .i64 y.sq) ∧ W.cell? ⟨w.heap.size + 1, 2, none⟩ = some (.int .i64 y.ty) ∧ W.cell? ⟨w.heap.size + 1, 3, none⟩ = some (.int .i64 y.tm) ∧ W.cell? ⟨w.heap.size + 1, 4, none⟩ = some (.slice A2 y.vals.length c2)) (by repeat (first | exact grows_cell _ _ _ | exact grows_true | refine grows_and ?_ ?_)) (by kernel_rfl) (by kernel_rfl) ?hF ?_; (case hF => (first | exact ⟨‹_›, ‹_›⟩ | (go_simp; done) | (simp [*]; done) | (repeat' (first | (refine And.intro ?_ ?_) | (go_simp; done) | exact cell_stays (bel_al (Below.refl _ _) _) (by assumption) | assumption)))); intro hne hxx; have hG : Hid (Grows (fun W => W.cell? ⟨w.heap.size, 0, none⟩ = some (.int .i64 x.src) ∧ W.cell? ⟨w.heap.size, 1, none⟩ = some (.int .i64 x.sq) ∧ W.cell? ⟨w.heap.size, 2, none⟩ = some (.int .i64 x.ty) ∧ W.cell? ⟨w.heap.size, 3, none⟩ = some (.int .i64 x.tm) ∧ W.cell? ⟨w.heap.size, 4, none⟩ = some (.slice A1 x.vals.length c1) ∧ W.cell? ⟨w.heap.size + 1, 0, none⟩ = some (.int .i64 y.src) ∧ W.cell? ⟨w.heap.size + 1, 1, none⟩ = some (.int .i64 y.sq) ∧ W.cell? ⟨w.heap.size + 1, 2, none⟩ = some (.int .i64 y.ty) ∧ W.cell? ⟨w.heap.size + 1, 3, none⟩ = some (.int .i64 y.tm) ∧ W.cell? ⟨w.heap.size + 1, 4, none⟩ = some (.slice A2 y.vals.length c2))) := (by repeat (first | exact grows_cell _ _ _ | exact grows_true | refine grows_and ?_ ?_)); (repeat (go_big_quiet_step ((go_at_call 37; exact cls_call hG (rRef_bel _ _ _ _ _ _ _ _))))); clear hG hxx hne; refine wpQuiet_nil ?_; rintro wq ⟨⟨w', hb', hF'⟩, rfl⟩
    clear hF'
    go_wp2_with fail
    go_ret
    exact ⟨rfl, bel_tr (bel_tr (bel_one _ _) (bel_one _ _)) hb'⟩
  · by_cases hty : x.ty = y.ty
    · have hd : decide (x.ty = y.ty) = true := by simpa using hty
      rw [hd, ← hty]
      clear hd hty
      go_enter Tryz.func75, Tryz.ntmps75
      go_wp2_with fail
      refine wp_region_F (fun W => W.cell? ⟨w.heap.size, 0, none⟩ = some (.int .i64 x.src) ∧ W.cell? ⟨w.heap.size, 1, none⟩ = some (.int .i64 x.sq) ∧ W.cell? ⟨w.heap.size, 2, none⟩ = some (.int .i64 x.ty) ∧ W.cell? ⟨w.heap.size, 3, none⟩ = some (.int .i64 x.tm) ∧ W.cell? ⟨w.heap.size, 4, none⟩ = some (.slice A1 x.vals.length c1) ∧ W.cell? ⟨w.heap.size + 1, 0, none⟩ = some (.int .i64 y.src) ∧ W.cell? ⟨w.heap.size + 1, 1, none⟩ = some (.int .i64 y.sq) ∧ W.cell? ⟨w.heap.size + 1, 2, none⟩ = some (.int .i64 x.ty) ∧ W.cell? ⟨w.heap.size + 1, 3, none⟩ = some (.int .i64 y.tm) ∧ W.cell? ⟨w.heap.size + 1, 4, none⟩ = some (.slice A2 y.vals.length c2)) (by repeat (first | exact grows_cell _ _ _ | exact grows_true | refine grows_and ?_ ?_)) (by kernel_rfl) (by kernel_rfl) ?hF ?_; (case hF => (first | exact ⟨‹_›, ‹_›⟩ | (go_simp; done) | (simp [*]; done) | (repeat' (first | (refine And.intro ?_ ?_) | (go_simp; done) | exact cell_stays (bel_al (Below.refl _ _) _) (by assumption) | assumption)))); intro hne hxx; have hG : Hid (Grows (fun W => W.cell? ⟨w.heap.size, 0, none⟩ = some (.int .i64 x.src) ∧ W.cell? ⟨w.heap.size, 1, none⟩ = some (.int .i64 x.sq) ∧ W.cell? ⟨w.heap.size, 2, none⟩ = some (.int .i64 x.ty) ∧ W.cell? ⟨w.heap.size, 3, none⟩ = some (.int .i64 x.tm) ∧ W.cell? ⟨w.heap.size, 4, none⟩ = some (.slice A1 x.vals.length c1) ∧ W.cell? ⟨w.heap.size + 1, 0, none⟩ = some (.int .i64 y.src) ∧ W.cell? ⟨w.heap.size + 1, 1, none⟩ = some (.int .i64 y.sq) ∧ W.cell? ⟨w.heap.size + 1, 2, none⟩ = some (.int .i64 x.ty) ∧ W.cell? ⟨w.heap.size + 1, 3, none⟩ = some (.int .i64 y.tm) ∧ W.cell? ⟨w.heap.size + 1, 4, none⟩ = some (.slice A2 y.vals.length c2))) := (by repeat (first | exact grows_cell _ _ _ | exact grows_true | refine grows_and ?_ ?_)); (repeat (go_big_quiet_step (first | (go_at_call 37; exact cls_call hG (rRef_bel _ _ _ _ _ _ _ _)) | (go_at_call 45; exact cls_callB hG (fun W hW => HSM.out W (bel_tr (bel_tr (bel_one _ _) (bel_one _ _)) hW)))))); clear hG hxx hne; refine wpQuiet_nil ?_; rintro wq ⟨⟨w', hb', hF'⟩, rfl⟩
      clear hF'
      go_wp2_with fail
      go_ret
      exact ⟨by simp, bel_tr (bel_tr (bel_one _ _) (bel_one _ _)) hb'⟩
    · have hd : decide (x.ty = y.ty) = false := by simpa using hty
      rw [hd]
      have hty' : (x.ty == y.ty) = false := by simpa using hty
      clear hd hty
      go_enter Tryz.func75, Tryz.ntmps75
      go_wp2_with fail
      refine wp_region_F (fun W => W.cell? ⟨w.heap.size, 0, none⟩ = some (.int .i64 x.src) ∧ W.cell? ⟨w.heap.size, 1, none⟩ = some (.int .i64 x.sq) ∧ W.cell? ⟨w.heap.size, 2, none⟩ = some (.int .i64 x.ty) ∧ W.cell? ⟨w.heap.size, 3, none⟩ = some (.int .i64 x.tm) ∧ W.cell? ⟨w.heap.size, 4, none⟩ = some (.slice A1 x.vals.length c1) ∧ W.cell? ⟨w.heap.size + 1, 0, none⟩ = some (.int .i64 y.src) ∧ W.cell? ⟨w.heap.size + 1, 1, none⟩ = some (.int .i64 y.sq) ∧ W.cell? ⟨w.heap.size + 1, 2, none⟩ = some (.int .i64 y.ty) ∧ W.cell? ⟨w.heap.size + 1, 3, none⟩ = some (.int .i64 y.tm) ∧ W.cell? ⟨w.heap.size + 1, 4, none⟩ = some (.slice A2 y.vals.length c2)) (by repeat (first | exact grows_cell _ _ _ | exact grows_true | refine grows_and ?_ ?_)) (by kernel_rfl) (by kernel_rfl) ?hF ?_; (case hF => (first | exact ⟨‹_›, ‹_›⟩ | (go_simp; done) | (simp [*]; done) | (repeat' (first | (refine And.intro ?_ ?_) | (go_simp; done) | exact cell_stays (bel_al (Below.refl _ _) _) (by assumption) | assumption)))); intro hne hxx; have hG : Hid (Grows (fun W => W.cell? ⟨w.heap.size, 0, none⟩ = some (.int .i64 x.src) ∧ W.cell? ⟨w.heap.size, 1, none⟩ = some (.int .i64 x.sq) ∧ W.cell? ⟨w.heap.size, 2, none⟩ = some (.int .i64 x.ty) ∧ W.cell? ⟨w.heap.size, 3, none⟩ = some (.int .i64 x.tm) ∧ W.cell? ⟨w.heap.size, 4, none⟩ = some (.slice A1 x.vals.length c1) ∧ W.cell? ⟨w.heap.size + 1, 0, none⟩ = some (.int .i64 y.src) ∧ W.cell? ⟨w.heap.size + 1, 1, none⟩ = some (.int .i64 y.sq) ∧ W.cell? ⟨w.heap.size + 1, 2, none⟩ = some (.int .i64 y.ty) ∧ W.cell? ⟨w.heap.size + 1, 3, none⟩ = some (.int .i64 y.tm) ∧ W.cell? ⟨w.heap.size + 1, 4, none⟩ = some (.slice A2 y.vals.length c2))) := (by repeat (first | exact grows_cell _ _ _ | exact grows_true | refine grows_and ?_ ?_)); (repeat (go_big_quiet_step ((go_at_call 37; exact cls_call hG (rRef_bel _ _ _ _ _ _ _ _))))); clear hG hxx hne; refine wpQuiet_nil ?_; rintro wq ⟨⟨w', hb', hF'⟩, rfl⟩
      clear hF'
      go_wp2_with fail
      go_ret
      exact ⟨by simp, bel_tr (bel_tr (bel_one _ _) (bel_one _ _)) hb'⟩

set_option maxRecDepth 100000 in
set_option maxHeartbeats 1000000 in
theorem rhas_any (l : List Evt) (x : Evt) (v u : Value) (w : World) (hl : IsEvts w v l) (hu : IsVls w u x.vals) :
    Calls Tryz.prog 38 #[v, evtV x u] w fun e w' => e = .returned (.bool (l.any fun y => evEq y x)) ∧ Below w.heap.size w w' := by
  obtain ⟨A1, c1, rfl, l1, m1, a1⟩ := hl
  have hn := len_i64 l1 m1
  have HA1 := Lib.hid a1
  have HU := Lib.hid hu
  obtain ⟨A3, c3, rfl, -⟩ := hu
  obtain ⟨R, hR⟩ : ∃ R, (l.any fun y => evEq y x) = R := ⟨_, rfl⟩
  have HR := Lib.hid hR
  rw [hR]
  clear a1 l1 m1 hR
  unfold evtV
  go_enter Tryz.func38, Tryz.ntmps38
  go_wp2_with fail
  refine wp_gen fun w1 e1 => ?_
  have x0 : w1.cell? ⟨w.heap.size, 0, none⟩ = some (.int .i64 x.src) := by rw [e1]; go_simp
  have x1 : w1.cell? ⟨w.heap.size, 1, none⟩ = some (.int .i64 x.sq) := by rw [e1]; go_simp
  have x2 : w1.cell? ⟨w.heap.size, 2, none⟩ = some (.int .i64 x.ty) := by rw [e1]; go_simp
  have x3 : w1.cell? ⟨w.heap.size, 3, none⟩ = some (.int .i64 x.tm) := by rw [e1]; go_simp
  have x4 : w1.cell? ⟨w.heap.size, 4, none⟩ = some (.slice A3 x.vals.length c3) := by rw [e1]; go_simp
  have hb1 : Below w.heap.size w w1 := by rw [e1]; exact (by repeat (first | exact Below.refl _ _ | assumption | refine Below.drew ?_ | refine bel_al ?_ _ | refine bel_set ?_ (by omega) _ | refine bel_tr ?_ (by assumption)))
  obtain ⟨B, hB⟩ : ∃ B, B = w.heap.size := ⟨_, rfl⟩
  rw [← hB] at x0 x1 x2 x3 x4 ⊢
  clear e1
  have X0 := Lib.hid x0
  have X1 := Lib.hid x1
  have X2 := Lib.hid x2
  have X3 := Lib.hid x3
  have X4 := Lib.hid x4
  have HB := Lib.hid hb1
  clear x0 x1 x2 x3 x4 hb1
  have HBB := Lib.hid hB
  clear hB
  go_loopw [5] (fun i wr => ∃ k : Nat, k ≤ l.length ∧ i = .int .i64 k ∧ Hid (((l.take k).any fun y => evEq y x) = false) ∧ Below w1.heap.size w1 wr) (fun i _ => l.length - (intOf i).toNat)
  case atStart => exact ⟨0, Nat.zero_le _, rfl, Lib.hid rfl, Below.refl _ _⟩
  case round =>
    obtain ⟨k, hk, rfl, hi, hb⟩ := hrel
    by_cases hlt : k < l.length
    · obtain ⟨b1, o1, rfl, u1, hu1, p0, p1, p2, p3, p4⟩ := HA1.out k l[k] (List.getElem?_eq_getElem hlt)
      have hb0 := bel_tr HB.out hb
      replace p0 := cell_stays hb0 p0
      replace p1 := cell_stays hb0 p1
      replace p2 := cell_stays hb0 p2
      replace p3 := cell_stays hb0 p3
      replace p4 := cell_stays hb0 p4
      have q0 := cell_stays hb X0.out
      have q1 := cell_stays hb X1.out
      have q2 := cell_stays hb X2.out
      have q3 := cell_stays hb X3.out
      have q4 := cell_stays hb X4.out
      have HU1 := Lib.hid (hu1.stays vlAt_stays hb0)
      have HU2 := Lib.hid (HU.out.stays vlAt_stays hb0)
      obtain ⟨A4, c4, rfl, -⟩ := hu1
      have hk' : (k : Int) < (l.length : Int) := by omega
      have hget := Lib.hid (List.getElem?_eq_getElem hlt)
      obtain ⟨y, hy⟩ : ∃ y, y = l[k] := ⟨_, rfl⟩
      rw [← hy] at p0 p1 p2 p3 p4 HU1 hget
      clear hy
      obtain ⟨r, hr⟩ : ∃ r, evEq y x = r := ⟨_, rfl⟩
      have HEV := Lib.hid hr
      have HEQ := Lib.hid (fun W (hb : Below wr.heap.size wr W) => requal_any y x _ _ W (HU1.out.stays vlAt_stays hb) (HU2.out.stays vlAt_stays hb))
      rw [hr] at HEQ
      clear hr
      unfold evtV at HEQ
      go_wp2_with fail
      refine wp_region_F (fun W => W.cell? ⟨b1, o1 + k * 5, none⟩ = some (.int .i64 y.src) ∧ W.cell? ⟨b1, o1 + k * 5 + 1, none⟩ = some (.int .i64 y.sq) ∧ W.cell? ⟨b1, o1 + k * 5 + 2, none⟩ = some (.int .i64 y.ty) ∧ W.cell? ⟨b1, o1 + k * 5 + 3, none⟩ = some (.int .i64 y.tm) ∧ W.cell? ⟨b1, o1 + k * 5 + 4, none⟩ = some (.slice A4 y.vals.length c4) ∧ W.cell? ⟨B, 0, none⟩ = some (.int .i64 x.src) ∧ W.cell? ⟨B, 1, none⟩ = some (.int .i64 x.sq) ∧ W.cell? ⟨B, 2, none⟩ = some (.int .i64 x.ty) ∧ W.cell? ⟨B, 3, none⟩ = some (.int .i64 x.tm) ∧ W.cell? ⟨B, 4, none⟩ = some (.slice A3 x.vals.length c3)) (by repeat (first | exact grows_cell _ _ _ | exact grows_true | refine grows_and ?_ ?_)) (by kernel_rfl) (by kernel_rfl) ?hF ?_; (case hF => (first | exact ⟨‹_›, ‹_›⟩ | (go_simp; done) | (simp [*]; done) | (repeat' (first | (refine And.intro ?_ ?_) | (go_simp; done) | exact cell_stays (bel_al (Below.refl _ _) _) (by assumption) | assumption)))); intro hne hxx; have hG : Hid (Grows (fun W => W.cell? ⟨b1, o1 + k * 5, none⟩ = some (.int .i64 y.src) ∧ W.cell? ⟨b1, o1 + k * 5 + 1, none⟩ = some (.int .i64 y.sq) ∧ W.cell? ⟨b1, o1 + k * 5 + 2, none⟩ = some (.int .i64 y.ty) ∧ W.cell? ⟨b1, o1 + k * 5 + 3, none⟩ = some (.int .i64 y.tm) ∧ W.cell? ⟨b1, o1 + k * 5 + 4, none⟩ = some (.slice A4 y.vals.length c4) ∧ W.cell? ⟨B, 0, none⟩ = some (.int .i64 x.src) ∧ W.cell? ⟨B, 1, none⟩ = some (.int .i64 x.sq) ∧ W.cell? ⟨B, 2, none⟩ = some (.int .i64 x.ty) ∧ W.cell? ⟨B, 3, none⟩ = some (.int .i64 x.tm) ∧ W.cell? ⟨B, 4, none⟩ = some (.slice A3 x.vals.length c3))) := (by repeat (first | exact grows_cell _ _ _ | exact grows_true | refine grows_and ?_ ?_)); (repeat (go_big_quiet_step ((go_at_call 75; exact cls_callB hG HEQ.out)))); clear hG hxx hne; refine wpQuiet_nil ?_; rintro wq ⟨⟨w', hb', hF'⟩, rfl⟩
      clear hF'
      have HB2 := Lib.hid (bel_tr hb0 hb')
      have HB3 := Lib.hid (bel_tr hb hb')
      clear hb0 hb'
      cases r with
      | true =>
        have hr1 : R = true := by rw [← HR.out]; exact List.any_eq_true.2 ⟨y, List.mem_of_getElem? hget.out, HEV.out⟩
        subst hr1
        go_wp2_with fail
        go_ret
        exact ⟨rfl, HB2.out⟩
      | false =>
        go_wp2_with fail
        go_roundw
        case rel => exact ⟨k + 1, by omega, by go_num, Lib.hid (by rw [take_snoc' hget.out, List.any_append, hi.out]; simp [HEV.out]), HB3.out⟩
        case measure => simp [intOf]; omega
    · have hr0 : R = false := by
        have h := hi.out
        rw [List.take_of_length_le (by omega)] at h
        rw [← HR.out, h]
      subst hr0
      have hk' : ¬ (k : Int) < (l.length : Int) := by omega
      go_wp2_with fail
      go_ret
      exact ⟨rfl, bel_tr HB.out hb⟩

set_option maxRecDepth 100000 in
set_option maxHeartbeats 1000000 in
/-- Order(Ref(a), Ref(b)) -/
theorem recov1_any (a b : Evt) (A B : Option Addr) (n c m d : Nat) (w : World) :
    Calls Tryz.prog 35 #[evtV a (.slice A n c), evtV b (.slice B m d)] w fun e w' => e = .returned (.int .i64 (refsC (eRef a) (eRef b))) ∧ Below w.heap.size w w' := by
  unfold evtV
  have HO := Lib.hid (fun W => rorder_raw a.tm a.src a.sq b.tm b.src b.sq W)
  obtain ⟨r, hr⟩ : ∃ r, refsC (eRef a) (eRef b) = r := ⟨_, rfl⟩
  unfold eRef at hr ⊢
  rw [hr] at HO ⊢
  clear hr
  go_enter Tryz.func35, Tryz.ntmps35
  go_wp2_with fail
  refine wp_region_F (fun W => W.cell? ⟨w.heap.size, 0, none⟩ = some (.int .i64 a.src) ∧ W.cell? ⟨w.heap.size, 1, none⟩ = some (.int .i64 a.sq) ∧ W.cell? ⟨w.heap.size, 2, none⟩ = some (.int .i64 a.ty) ∧ W.cell? ⟨w.heap.size, 3, none⟩ = some (.int .i64 a.tm) ∧ W.cell? ⟨w.heap.size, 4, none⟩ = some (.slice A n c) ∧ W.cell? ⟨w.heap.size + 1, 0, none⟩ = some (.int .i64 b.src) ∧ W.cell? ⟨w.heap.size + 1, 1, none⟩ = some (.int .i64 b.sq) ∧ W.cell? ⟨w.heap.size + 1, 2, none⟩ = some (.int .i64 b.ty) ∧ W.cell? ⟨w.heap.size + 1, 3, none⟩ = some (.int .i64 b.tm) ∧ W.cell? ⟨w.heap.size + 1, 4, none⟩ = some (.slice B m d)) (by repeat (first | exact grows_cell _ _ _ | exact grows_true | refine grows_and ?_ ?_)) (by kernel_rfl) (by kernel_rfl) ?hF ?_; (case hF => (first | exact ⟨‹_›, ‹_›⟩ | (go_simp; done) | (simp [*]; done) | (repeat' (first | (refine And.intro ?_ ?_) | (go_simp; done) | exact cell_stays (bel_al (Below.refl _ _) _) (by assumption) | assumption)))); intro hne hxx; have hG : Hid (Grows (fun W => W.cell? ⟨w.heap.size, 0, none⟩ = some (.int .i64 a.src) ∧ W.cell? ⟨w.heap.size, 1, none⟩ = some (.int .i64 a.sq) ∧ W.cell? ⟨w.heap.size, 2, none⟩ = some (.int .i64 a.ty) ∧ W.cell? ⟨w.heap.size, 3, none⟩ = some (.int .i64 a.tm) ∧ W.cell? ⟨w.heap.size, 4, none⟩ = some (.slice A n c) ∧ W.cell? ⟨w.heap.size + 1, 0, none⟩ = some (.int .i64 b.src) ∧ W.cell? ⟨w.heap.size + 1, 1, none⟩ = some (.int .i64 b.sq) ∧ W.cell? ⟨w.heap.size + 1, 2, none⟩ = some (.int .i64 b.ty) ∧ W.cell? ⟨w.heap.size + 1, 3, none⟩ = some (.int .i64 b.tm) ∧ W.cell? ⟨w.heap.size + 1, 4, none⟩ = some (.slice B m d))) := (by repeat (first | exact grows_cell _ _ _ | exact grows_true | refine grows_and ?_ ?_)); (repeat (go_big_quiet_step (first | (go_at_call 37; exact cls_call hG (rRef_bel _ _ _ _ _ _ _ _)) | (go_at_call 36; exact cls_callB hG (fun W _ => (HO.out W).mono fun _ _ ⟨h1, h2⟩ => ⟨h1, h2.below⟩))))); clear hG hxx hne; refine wpQuiet_nil ?_; rintro wq ⟨⟨w', hb', hF'⟩, rfl⟩
  clear hF'
  go_wp2_with fail
  go_ret
  exact ⟨rfl, bel_tr (bel_tr (bel_one _ _) (bel_one _ _)) hb'⟩

set_option maxRecDepth 100000 in
set_option maxHeartbeats 1000000 in
/-- events in order are sorted -/
theorem isSorted_any (l : List Evt) (v : Value) (w : World) (hl : IsEvts w v l) (ha : l.Pairwise fun a b => refsC (eRef a) (eRef b) < 0) :
    Calls Tryz.prog 34 #[v, .func (.func 35) #[] #[]] w fun e w' => e = .returned (.bool true) ∧ Below w.heap.size w w' := by
  obtain ⟨A1, c1, rfl, l1, m1, a1⟩ := hl
  have hn := len_i64 l1 m1
  have HA1 := Lib.hid a1
  have HP := Lib.hid ha
  clear a1 l1 m1 ha
  go_enter Tryz.func34, Tryz.ntmps34
  go_wp2_with fail
  go_loopw [5] (fun i wr => ∃ k : Nat, k ≤ l.length ∧ i = .int .i64 ((k : Int) - 1) ∧ Below w.heap.size w wr) (fun i _ => (intOf i + 1).toNat)
  case atStart => exact ⟨l.length, Nat.le_refl _, by go_num, Below.refl _ _⟩
  case round =>
    obtain ⟨k, hk, rfl, hb⟩ := hrel
    by_cases hlt : 2 ≤ k
    · obtain ⟨j, rfl⟩ : ∃ j, k = j + 2 := ⟨k - 2, by omega⟩
      have hji : ((j + 2 : Nat) : Int) - 1 = ((j + 1 : Nat) : Int) := by omega
      rw [hji]
      obtain ⟨b1, o1, rfl, u1, hu1, p0, p1, p2, p3, p4⟩ := HA1.out (j + 1) l[j + 1] (List.getElem?_eq_getElem (by omega))
      obtain ⟨b2, o2, hbo, u2, hu2, q0, q1, q2, q3, q4⟩ := HA1.out j l[j] (List.getElem?_eq_getElem (by omega))
      simp only [Option.some.injEq, Addr.mk.injEq, and_true] at hbo
      obtain ⟨rfl, rfl⟩ := hbo
      replace p0 := cell_stays hb p0
      replace p1 := cell_stays hb p1
      replace p2 := cell_stays hb p2
      replace p3 := cell_stays hb p3
      replace p4 := cell_stays hb p4
      replace q0 := cell_stays hb q0
      replace q1 := cell_stays hb q1
      replace q2 := cell_stays hb q2
      replace q3 := cell_stays hb q3
      replace q4 := cell_stays hb q4
      obtain ⟨A3, c3, rfl, -⟩ := hu1
      obtain ⟨A4, c4, rfl, -⟩ := hu2
      have hord := List.pairwise_iff_getElem.1 HP.out j (j + 1) (by omega) (by omega) (by omega)
      obtain ⟨x, hx⟩ : ∃ x, x = l[j + 1] := ⟨_, rfl⟩
      obtain ⟨y, hy⟩ : ∃ y, y = l[j] := ⟨_, rfl⟩
      rw [← hx] at p0 p1 p2 p3 p4 hord
      rw [← hy] at q0 q1 q2 q3 q4 hord
      have hanti := refsC_pc.anti (eRef x) (eRef y)
      obtain ⟨r, hr⟩ : ∃ r, refsC (eRef x) (eRef y) = r := ⟨_, rfl⟩
      have hr0 : ¬ r < 0 := by omega
      have HC : Hid (∀ W, Calls Tryz.prog 35 #[evtV x (.slice A3 x.vals.length c3), evtV y (.slice A4 y.vals.length c4)] W fun e w' => e = .returned (.int .i64 r) ∧ Below W.heap.size W w') := Lib.hid (fun W => by rw [← hr]; exact recov1_any x y A3 A4 _ c3 _ c4 W)
      unfold evtV at HC
      have hlt1 : (j : Int) + 1 < (l.length : Int) := by omega
      have hlt2 : (j : Int) < (l.length : Int) := by omega
      have hj0 : (0 : Int) < (j : Int) + 1 := by omega
      clear hx hy hanti hord hr hji
      have hb1' : (0 : Int) ≤ (j : Int) + 1 := by omega
      go_wp2_with fail
      refine wp_region_F (fun W => W.cell? ⟨b1, o1 + (j + 1) * 5, none⟩ = some (.int .i64 x.src) ∧ W.cell? ⟨b1, o1 + (j + 1) * 5 + 1, none⟩ = some (.int .i64 x.sq) ∧ W.cell? ⟨b1, o1 + (j + 1) * 5 + 2, none⟩ = some (.int .i64 x.ty) ∧ W.cell? ⟨b1, o1 + (j + 1) * 5 + 3, none⟩ = some (.int .i64 x.tm) ∧ W.cell? ⟨b1, o1 + (j + 1) * 5 + 4, none⟩ = some (.slice A3 x.vals.length c3) ∧ W.cell? ⟨b1, o1 + j * 5, none⟩ = some (.int .i64 y.src) ∧ W.cell? ⟨b1, o1 + j * 5 + 1, none⟩ = some (.int .i64 y.sq) ∧ W.cell? ⟨b1, o1 + j * 5 + 2, none⟩ = some (.int .i64 y.ty) ∧ W.cell? ⟨b1, o1 + j * 5 + 3, none⟩ = some (.int .i64 y.tm) ∧ W.cell? ⟨b1, o1 + j * 5 + 4, none⟩ = some (.slice A4 y.vals.length c4)) (by repeat (first | exact grows_cell _ _ _ | exact grows_true | refine grows_and ?_ ?_)) (by kernel_rfl) (by kernel_rfl) ?hF ?_; (case hF => (first | exact ⟨‹_›, ‹_›⟩ | (go_simp; done) | (simp [*]; done) | (repeat' (first | (refine And.intro ?_ ?_) | (go_simp; done) | exact cell_stays (bel_al (Below.refl _ _) _) (by assumption) | assumption)))); intro hne hxx; have hG : Hid (Grows (fun W => W.cell? ⟨b1, o1 + (j + 1) * 5, none⟩ = some (.int .i64 x.src) ∧ W.cell? ⟨b1, o1 + (j + 1) * 5 + 1, none⟩ = some (.int .i64 x.sq) ∧ W.cell? ⟨b1, o1 + (j + 1) * 5 + 2, none⟩ = some (.int .i64 x.ty) ∧ W.cell? ⟨b1, o1 + (j + 1) * 5 + 3, none⟩ = some (.int .i64 x.tm) ∧ W.cell? ⟨b1, o1 + (j + 1) * 5 + 4, none⟩ = some (.slice A3 x.vals.length c3) ∧ W.cell? ⟨b1, o1 + j * 5, none⟩ = some (.int .i64 y.src) ∧ W.cell? ⟨b1, o1 + j * 5 + 1, none⟩ = some (.int .i64 y.sq) ∧ W.cell? ⟨b1, o1 + j * 5 + 2, none⟩ = some (.int .i64 y.ty) ∧ W.cell? ⟨b1, o1 + j * 5 + 3, none⟩ = some (.int .i64 y.tm) ∧ W.cell? ⟨b1, o1 + j * 5 + 4, none⟩ = some (.slice A4 y.vals.length c4))) := (by repeat (first | exact grows_cell _ _ _ | exact grows_true | refine grows_and ?_ ?_)); (repeat (go_big_quiet_step ((go_at_call 35; exact cls_callB hG (fun W _ => HC.out W))))); clear hG hxx hne; refine wpQuiet_nil ?_; rintro wq ⟨⟨w', hb', hF'⟩, rfl⟩
      clear hF'
      go_wp2_with fail
      go_roundw
      case rel => exact ⟨j + 1, by omega, by go_num, bel_tr hb hb'⟩
      case measure => simp [intOf]; omega
    · have hk' : ¬ (0 : Int) < (k : Int) - 1 := by omega
      go_wp2_with fail
      go_ret
      exact ⟨rfl, hb⟩
end Go.Proofs.YtclpglgigpjfoaaGreatDoor
