/- Events: their Refs, their order, as the program and as the references have them. -/
import Derived.Test.YtclpglgigpjfoaaDoorLref
import Derived.Test.YtclpglgigpjfoaaDoorMdata
import Derived.Laws.StructEq
import Derived.Shelf.SlicesE.Kit
import Derived.Handy
namespace Go.Proofs.YtclpglgigpjfoaaDoor
open Go.RowKit

theorem evRef_raw (s q y t : Int) (A : Option Addr) (n c : Nat) (w : World) : Calls Tryd.prog 60 #[.agg #[.int .i64 s, .int .i64 q, .int .i64 y, .int .i64 t, .slice A n c]] w fun e w' => e = .returned (.agg #[.int .i64 t, .int .i64 s, .int .i64 q]) ∧ Gr w w' := by
  go_enter Tryd.func60, Tryd.ntmps60
  go_wp2
  go_returns
  exact ⟨rfl, (by repeat (first | exact Gr.refl _ | assumption | refine Gr.drew ?_ | refine Gr.alloc ?_ _ | refine Gr.set ?_ (by omega) _ | refine Gr.trans ?_ (by assumption)))⟩
theorem rRef_raw (s q y t : Int) (A : Option Addr) (n c : Nat) (w : World) : Calls Tryd.prog 26 #[.agg #[.int .i64 s, .int .i64 q, .int .i64 y, .int .i64 t, .slice A n c]] w fun e w' => e = .returned (.agg #[.int .i64 t, .int .i64 s, .int .i64 q]) ∧ Gr w w' := by
  go_enter Tryd.func26, Tryd.ntmps26
  go_wp2
  go_returns
  exact ⟨rfl, (by repeat (first | exact Gr.refl _ | assumption | refine Gr.drew ?_ | refine Gr.alloc ?_ _ | refine Gr.set ?_ (by omega) _ | refine Gr.trans ?_ (by assumption)))⟩
theorem evOf_raw (s q y t : Int) (A : Option Addr) (n c : Nat) (w : World) : Calls Tryd.prog 45 #[.agg #[.int .i64 s, .int .i64 q, .int .i64 y, .int .i64 t, .slice A n c]] w fun e w' => e = .returned (.agg #[.int .i64 s, .int .i64 q]) ∧ Gr w w' := by
  go_enter Tryd.func45, Tryd.ntmps45
  go_wp2
  go_returns
  exact ⟨rfl, (by repeat (first | exact Gr.refl _ | assumption | refine Gr.drew ?_ | refine Gr.alloc ?_ _ | refine Gr.set ?_ (by omega) _ | refine Gr.trans ?_ (by assumption)))⟩
def refEq (a b : Bnd) : Bool := a.t == b.t && (a.s == b.s && a.n == b.n)
theorem refsC_zero {a b : Bnd} : refsC a b = 0 ↔ a.t = b.t ∧ a.s = b.s ∧ a.n = b.n := by
  unfold refsC
  rw [orI_zero, orI_zero, cmpI_eq, cmpI_eq, cmpI_eq, and_assoc]
theorem refEq_iff {a b : Bnd} : refEq a b = decide (refsC a b = 0) := by
  rw [Bool.eq_iff_iff, decide_eq_true_eq, refsC_zero]
  simp [refEq]
theorem ref_eql (a b : Bnd) (W : World) : (binOp .eql 39 (refV a) (refV b)).run Tryd.prog W = .ok (.bool (refEq a b)) W := by
  have u3 := Tryd.underlying3
  have a3 := Tryd.isAgg3
  have z3 := Tryd.sizeOf3
  have hS : Tryd.prog.underlying 39 = some (.struct (Tryd.prog.fieldsOf 39)) := by kernel_rfl
  have hp : Tryd.prog.stoodInHeld 39 = false := by kernel_rfl
  unfold refV
  rw [run_eql_struct, show (10000 : Nat) = 9999 + 1 from rfl, run_equalIn_agg W 9999 39 _ _ hS hp]
  simp only [Program.fieldsOf, Tryd.underlying39]
  go_simp
  by_cases h1 : a.t = b.t <;> by_cases h2 : a.s = b.s <;> by_cases h3 : a.n = b.n <;> simp [refEq, h1, h2, h3]

/-- the ten cells of two boxed events -/
abbrev TwoEv (B C : Nat) (a b : Evt) (A : Option Addr) (n c : Nat) (A2 : Option Addr) (m d : Nat) (W : World) : Prop :=
  W.cell? ⟨B, 0, none⟩ = some (.int .i64 a.src) ∧ W.cell? ⟨B, 1, none⟩ = some (.int .i64 a.sq) ∧ W.cell? ⟨B, 2, none⟩ = some (.int .i64 a.ty) ∧ W.cell? ⟨B, 3, none⟩ = some (.int .i64 a.tm) ∧ W.cell? ⟨B, 4, none⟩ = some (.slice A n c) ∧
  W.cell? ⟨C, 0, none⟩ = some (.int .i64 b.src) ∧ W.cell? ⟨C, 1, none⟩ = some (.int .i64 b.sq) ∧ W.cell? ⟨C, 2, none⟩ = some (.int .i64 b.ty) ∧ W.cell? ⟨C, 3, none⟩ = some (.int .i64 b.tm) ∧ W.cell? ⟨C, 4, none⟩ = some (.slice A2 m d)
set_option maxHeartbeats 1000000 in
theorem evcmp_any (a b : Evt) (A B : Option Addr) (n c m d : Nat) (w : World) :
    Calls Tryd.prog 44 #[evtV a (.slice A n c), evtV b (.slice B m d)] w fun e w' => e = .returned (.int .i64 (refsC (eRef a) (eRef b))) ∧ Gr w w' := by
  obtain ⟨r, hr⟩ : ∃ r, refEq (eRef a) (eRef b) = r := ⟨_, rfl⟩
  have he : ∀ W, (binOp .eql 39 (refV (eRef a)) (refV (eRef b))).run Tryd.prog W = .ok (.bool r) W := fun W => by rw [ref_eql, hr]
  unfold refV eRef at he
  rw [refEq_iff] at hr
  cases r
  · clear hr
    unfold refsC eRef
    unfold evtV
    go_enter Tryd.func44, Tryd.ntmps44
    go_wp2_with fail
    refine wp_gen fun w2 e2 => ?_; have hFF : Hid ((fun w' => w'.cell? ⟨w.heap.size, 0, none⟩ = some (.int .i64 a.src) ∧ w'.cell? ⟨w.heap.size, 1, none⟩ = some (.int .i64 a.sq) ∧ w'.cell? ⟨w.heap.size, 2, none⟩ = some (.int .i64 a.ty) ∧ w'.cell? ⟨w.heap.size, 3, none⟩ = some (.int .i64 a.tm) ∧ w'.cell? ⟨w.heap.size, 4, none⟩ = some (.slice A n c) ∧ w'.cell? ⟨w.heap.size + 1, 0, none⟩ = some (.int .i64 b.src) ∧ w'.cell? ⟨w.heap.size + 1, 1, none⟩ = some (.int .i64 b.sq) ∧ w'.cell? ⟨w.heap.size + 1, 2, none⟩ = some (.int .i64 b.ty) ∧ w'.cell? ⟨w.heap.size + 1, 3, none⟩ = some (.int .i64 b.tm) ∧ w'.cell? ⟨w.heap.size + 1, 4, none⟩ = some (.slice B m d)) w2) := Lib.hid (by subst e2; (first | exact ⟨‹_›, ‹_›⟩ | (go_simp; done) | (simp [*]; done))); have hGG : Hid (Grows (fun w' => w'.cell? ⟨w.heap.size, 0, none⟩ = some (.int .i64 a.src) ∧ w'.cell? ⟨w.heap.size, 1, none⟩ = some (.int .i64 a.sq) ∧ w'.cell? ⟨w.heap.size, 2, none⟩ = some (.int .i64 a.ty) ∧ w'.cell? ⟨w.heap.size, 3, none⟩ = some (.int .i64 a.tm) ∧ w'.cell? ⟨w.heap.size, 4, none⟩ = some (.slice A n c) ∧ w'.cell? ⟨w.heap.size + 1, 0, none⟩ = some (.int .i64 b.src) ∧ w'.cell? ⟨w.heap.size + 1, 1, none⟩ = some (.int .i64 b.sq) ∧ w'.cell? ⟨w.heap.size + 1, 2, none⟩ = some (.int .i64 b.ty) ∧ w'.cell? ⟨w.heap.size + 1, 3, none⟩ = some (.int .i64 b.tm) ∧ w'.cell? ⟨w.heap.size + 1, 4, none⟩ = some (.slice B m d))) := (by repeat (first | exact grows_cell _ _ _ | exact grows_true | refine grows_and ?_ ?_)); have hg2 : Gr w w2 := (by subst e2; exact (by repeat (first | exact Gr.refl _ | assumption | refine Gr.drew ?_ | refine Gr.alloc ?_ _ | refine Gr.set ?_ (by omega) _ | refine Gr.trans ?_ (by assumption)))); clear e2; have hFF' := hFF.out; go_region_held3 (fun w' => w'.cell? ⟨w.heap.size, 0, none⟩ = some (.int .i64 a.src) ∧ w'.cell? ⟨w.heap.size, 1, none⟩ = some (.int .i64 a.sq) ∧ w'.cell? ⟨w.heap.size, 2, none⟩ = some (.int .i64 a.ty) ∧ w'.cell? ⟨w.heap.size, 3, none⟩ = some (.int .i64 a.tm) ∧ w'.cell? ⟨w.heap.size, 4, none⟩ = some (.slice A n c) ∧ w'.cell? ⟨w.heap.size + 1, 0, none⟩ = some (.int .i64 b.src) ∧ w'.cell? ⟨w.heap.size + 1, 1, none⟩ = some (.int .i64 b.sq) ∧ w'.cell? ⟨w.heap.size + 1, 2, none⟩ = some (.int .i64 b.ty) ∧ w'.cell? ⟨w.heap.size + 1, 3, none⟩ = some (.int .i64 b.tm) ∧ w'.cell? ⟨w.heap.size + 1, 4, none⟩ = some (.slice B m d)) (with_reducible exact hGG.out.to (Gr.below (by repeat (first | with_reducible exact Gr.refl _ | assumption | with_reducible refine Gr.drew ?_ | with_reducible refine Gr.alloc ?_ _ | with_reducible refine Gr.trans ?_ (by assumption)))) hFF.out) ((go_at_call 60; refine (evRef_raw _ _ _ _ _ _ _ _).mono ?_; rintro e w3 ⟨rfl, hg3⟩))
    all_goals
      rename_i hK
      clear he
      go_wp2_with fail
      have hg9 : Gr w w3 := (by repeat (first | exact Gr.refl _ | assumption | refine Gr.drew ?_ | refine Gr.alloc ?_ _ | refine Gr.set ?_ (by omega) _ | refine Gr.trans ?_ (by assumption)))
      clear hFF hGG hFF' hg2
      obtain ⟨f0, f1, f2, f3, f4, f5, f6, f7, f8, f9⟩ := hK
      have hg8 := Gr.refl w3
      have hFF : Hid ((fun w' => w'.cell? ⟨w.heap.size, 0, none⟩ = some (.int .i64 a.src) ∧ w'.cell? ⟨w.heap.size, 1, none⟩ = some (.int .i64 a.sq) ∧ w'.cell? ⟨w.heap.size, 2, none⟩ = some (.int .i64 a.ty) ∧ w'.cell? ⟨w.heap.size, 3, none⟩ = some (.int .i64 a.tm) ∧ w'.cell? ⟨w.heap.size, 4, none⟩ = some (.slice A n c) ∧ w'.cell? ⟨w.heap.size + 1, 0, none⟩ = some (.int .i64 b.src) ∧ w'.cell? ⟨w.heap.size + 1, 1, none⟩ = some (.int .i64 b.sq) ∧ w'.cell? ⟨w.heap.size + 1, 2, none⟩ = some (.int .i64 b.ty) ∧ w'.cell? ⟨w.heap.size + 1, 3, none⟩ = some (.int .i64 b.tm) ∧ w'.cell? ⟨w.heap.size + 1, 4, none⟩ = some (.slice B m d)) w3) := Lib.hid (by (first | exact ⟨‹_›, ‹_›⟩ | (go_simp; done) | (simp [*]; done))); have hGG : Hid (Grows (fun w' => w'.cell? ⟨w.heap.size, 0, none⟩ = some (.int .i64 a.src) ∧ w'.cell? ⟨w.heap.size, 1, none⟩ = some (.int .i64 a.sq) ∧ w'.cell? ⟨w.heap.size, 2, none⟩ = some (.int .i64 a.ty) ∧ w'.cell? ⟨w.heap.size, 3, none⟩ = some (.int .i64 a.tm) ∧ w'.cell? ⟨w.heap.size, 4, none⟩ = some (.slice A n c) ∧ w'.cell? ⟨w.heap.size + 1, 0, none⟩ = some (.int .i64 b.src) ∧ w'.cell? ⟨w.heap.size + 1, 1, none⟩ = some (.int .i64 b.sq) ∧ w'.cell? ⟨w.heap.size + 1, 2, none⟩ = some (.int .i64 b.ty) ∧ w'.cell? ⟨w.heap.size + 1, 3, none⟩ = some (.int .i64 b.tm) ∧ w'.cell? ⟨w.heap.size + 1, 4, none⟩ = some (.slice B m d))) := (by repeat (first | exact grows_cell _ _ _ | exact grows_true | refine grows_and ?_ ?_)); have hFF' := hFF.out; go_region_held3 (fun w' => w'.cell? ⟨w.heap.size, 0, none⟩ = some (.int .i64 a.src) ∧ w'.cell? ⟨w.heap.size, 1, none⟩ = some (.int .i64 a.sq) ∧ w'.cell? ⟨w.heap.size, 2, none⟩ = some (.int .i64 a.ty) ∧ w'.cell? ⟨w.heap.size, 3, none⟩ = some (.int .i64 a.tm) ∧ w'.cell? ⟨w.heap.size, 4, none⟩ = some (.slice A n c) ∧ w'.cell? ⟨w.heap.size + 1, 0, none⟩ = some (.int .i64 b.src) ∧ w'.cell? ⟨w.heap.size + 1, 1, none⟩ = some (.int .i64 b.sq) ∧ w'.cell? ⟨w.heap.size + 1, 2, none⟩ = some (.int .i64 b.ty) ∧ w'.cell? ⟨w.heap.size + 1, 3, none⟩ = some (.int .i64 b.tm) ∧ w'.cell? ⟨w.heap.size + 1, 4, none⟩ = some (.slice B m d)) (with_reducible exact hGG.out.to (Gr.below (by repeat (first | with_reducible exact Gr.refl _ | assumption | with_reducible refine Gr.drew ?_ | with_reducible refine Gr.alloc ?_ _ | with_reducible refine Gr.trans ?_ (by assumption)))) hFF.out) (first | (go_at_call 25; refine (compare_any _ _ _).mono ?_; rintro e w' ⟨rfl, rfl⟩) | (go_at_call 24; refine (or_three _ (cmpI a.tm b.tm) (cmpI a.src b.src) (cmpI a.sq b.sq) _ ?_ ?_ ?_).mono ?_; (go_simp); (go_simp); (go_simp); rintro e w' ⟨rfl, rfl⟩))
      all_goals
        go_wp2_with fail
        go_ret
        exact ⟨rfl, hg9.trans (by repeat (first | exact Gr.refl _ | assumption | refine Gr.drew ?_ | refine Gr.alloc ?_ _ | refine Gr.set ?_ (by omega) _ | refine Gr.trans ?_ (by assumption)))⟩
  · have h0 : refsC (eRef a) (eRef b) = 0 := by simpa using hr
    rw [h0]
    clear hr h0
    unfold evtV
    go_enter Tryd.func44, Tryd.ntmps44
    go_wp2_with fail
    refine wp_gen fun w2 e2 => ?_; have hFF : Hid ((fun w' => w'.cell? ⟨w.heap.size, 0, none⟩ = some (.int .i64 a.src) ∧ w'.cell? ⟨w.heap.size, 1, none⟩ = some (.int .i64 a.sq) ∧ w'.cell? ⟨w.heap.size, 2, none⟩ = some (.int .i64 a.ty) ∧ w'.cell? ⟨w.heap.size, 3, none⟩ = some (.int .i64 a.tm) ∧ w'.cell? ⟨w.heap.size, 4, none⟩ = some (.slice A n c) ∧ w'.cell? ⟨w.heap.size + 1, 0, none⟩ = some (.int .i64 b.src) ∧ w'.cell? ⟨w.heap.size + 1, 1, none⟩ = some (.int .i64 b.sq) ∧ w'.cell? ⟨w.heap.size + 1, 2, none⟩ = some (.int .i64 b.ty) ∧ w'.cell? ⟨w.heap.size + 1, 3, none⟩ = some (.int .i64 b.tm) ∧ w'.cell? ⟨w.heap.size + 1, 4, none⟩ = some (.slice B m d)) w2) := Lib.hid (by subst e2; (first | exact ⟨‹_›, ‹_›⟩ | (go_simp; done) | (simp [*]; done))); have hGG : Hid (Grows (fun w' => w'.cell? ⟨w.heap.size, 0, none⟩ = some (.int .i64 a.src) ∧ w'.cell? ⟨w.heap.size, 1, none⟩ = some (.int .i64 a.sq) ∧ w'.cell? ⟨w.heap.size, 2, none⟩ = some (.int .i64 a.ty) ∧ w'.cell? ⟨w.heap.size, 3, none⟩ = some (.int .i64 a.tm) ∧ w'.cell? ⟨w.heap.size, 4, none⟩ = some (.slice A n c) ∧ w'.cell? ⟨w.heap.size + 1, 0, none⟩ = some (.int .i64 b.src) ∧ w'.cell? ⟨w.heap.size + 1, 1, none⟩ = some (.int .i64 b.sq) ∧ w'.cell? ⟨w.heap.size + 1, 2, none⟩ = some (.int .i64 b.ty) ∧ w'.cell? ⟨w.heap.size + 1, 3, none⟩ = some (.int .i64 b.tm) ∧ w'.cell? ⟨w.heap.size + 1, 4, none⟩ = some (.slice B m d))) := (by repeat (first | exact grows_cell _ _ _ | exact grows_true | refine grows_and ?_ ?_)); have hg2 : Gr w w2 := (by subst e2; exact (by repeat (first | exact Gr.refl _ | assumption | refine Gr.drew ?_ | refine Gr.alloc ?_ _ | refine Gr.set ?_ (by omega) _ | refine Gr.trans ?_ (by assumption)))); clear e2; have hFF' := hFF.out; go_region_held3 (fun w' => w'.cell? ⟨w.heap.size, 0, none⟩ = some (.int .i64 a.src) ∧ w'.cell? ⟨w.heap.size, 1, none⟩ = some (.int .i64 a.sq) ∧ w'.cell? ⟨w.heap.size, 2, none⟩ = some (.int .i64 a.ty) ∧ w'.cell? ⟨w.heap.size, 3, none⟩ = some (.int .i64 a.tm) ∧ w'.cell? ⟨w.heap.size, 4, none⟩ = some (.slice A n c) ∧ w'.cell? ⟨w.heap.size + 1, 0, none⟩ = some (.int .i64 b.src) ∧ w'.cell? ⟨w.heap.size + 1, 1, none⟩ = some (.int .i64 b.sq) ∧ w'.cell? ⟨w.heap.size + 1, 2, none⟩ = some (.int .i64 b.ty) ∧ w'.cell? ⟨w.heap.size + 1, 3, none⟩ = some (.int .i64 b.tm) ∧ w'.cell? ⟨w.heap.size + 1, 4, none⟩ = some (.slice B m d)) (with_reducible exact hGG.out.to (Gr.below (by repeat (first | with_reducible exact Gr.refl _ | assumption | with_reducible refine Gr.drew ?_ | with_reducible refine Gr.alloc ?_ _ | with_reducible refine Gr.trans ?_ (by assumption)))) hFF.out) ((go_at_call 60; refine (evRef_raw _ _ _ _ _ _ _ _).mono ?_; rintro e w3 ⟨rfl, hg3⟩))
    all_goals
      clear he
      go_wp2_with fail
      go_ret
      exact ⟨rfl, (by repeat (first | exact Gr.refl _ | assumption | refine Gr.drew ?_ | refine Gr.alloc ?_ _ | refine Gr.set ?_ (by omega) _ | refine Gr.trans ?_ (by assumption)))⟩

set_option maxHeartbeats 1000000 in
theorem evplaced_any (x : Evt) (A : Option Addr) (n c : Nat) (w : World) (u : Value) (hu : u = .slice A n c) : Calls Tryd.prog 43 #[evtV x u] w fun e w' => e = .returned (.bool (placedE x)) ∧ Gr w w' := by
  subst hu
  unfold evtV placedE
  obtain ⟨s, q, y, t, vs⟩ := x
  simp only
  by_cases h1 : 0 ≤ t
  · by_cases h2 : t ≤ 1099511627776
    · by_cases h3 : 0 ≤ s
      · by_cases h4 : s < 8
        · by_cases h5 : 0 ≤ q
          · by_cases h6 : q ≤ 1099511627776 <;>
            · go_enter Tryd.func43, Tryd.ntmps43
              go_wp2
              go_ret
              exact ⟨by simp [*], (by repeat (first | exact Gr.refl _ | assumption | refine Gr.drew ?_ | refine Gr.alloc ?_ _ | refine Gr.set ?_ (by omega) _ | refine Gr.trans ?_ (by assumption)))⟩
          · go_enter Tryd.func43, Tryd.ntmps43
            go_wp2
            go_ret
            exact ⟨by simp [*] <;> omega, (by repeat (first | exact Gr.refl _ | assumption | refine Gr.drew ?_ | refine Gr.alloc ?_ _ | refine Gr.set ?_ (by omega) _ | refine Gr.trans ?_ (by assumption)))⟩
        · go_enter Tryd.func43, Tryd.ntmps43
          go_wp2
          go_ret
          exact ⟨by simp [*] <;> omega, (by repeat (first | exact Gr.refl _ | assumption | refine Gr.drew ?_ | refine Gr.alloc ?_ _ | refine Gr.set ?_ (by omega) _ | refine Gr.trans ?_ (by assumption)))⟩
      · go_enter Tryd.func43, Tryd.ntmps43
        go_wp2
        go_ret
        exact ⟨by simp [*] <;> omega, (by repeat (first | exact Gr.refl _ | assumption | refine Gr.drew ?_ | refine Gr.alloc ?_ _ | refine Gr.set ?_ (by omega) _ | refine Gr.trans ?_ (by assumption)))⟩
    · go_enter Tryd.func43, Tryd.ntmps43
      go_wp2
      go_ret
      exact ⟨by simp [*] <;> omega, (by repeat (first | exact Gr.refl _ | assumption | refine Gr.drew ?_ | refine Gr.alloc ?_ _ | refine Gr.set ?_ (by omega) _ | refine Gr.trans ?_ (by assumption)))⟩
  · go_enter Tryd.func43, Tryd.ntmps43
    go_wp2
    go_ret
    exact ⟨by simp [*] <;> omega, (by repeat (first | exact Gr.refl _ | assumption | refine Gr.drew ?_ | refine Gr.alloc ?_ _ | refine Gr.set ?_ (by omega) _ | refine Gr.trans ?_ (by assumption)))⟩

set_option maxHeartbeats 1000000 in
theorem evref_any (a : Evt) (b : Bnd) (A : Option Addr) (n c : Nat) (w : World) :
    Calls Tryd.prog 47 #[evtV a (.slice A n c), refV b] w fun e w' => e = .returned (.int .i64 (refsC (eRef a) b)) ∧ Gr w w' := by
  unfold refsC eRef evtV refV
  go_enter Tryd.func47, Tryd.ntmps47
  go_wp2_with fail
  refine wp_gen fun w2 e2 => ?_; have hFF : Hid ((fun w' => w'.cell? ⟨w.heap.size, 0, none⟩ = some (.int .i64 a.src) ∧ w'.cell? ⟨w.heap.size, 1, none⟩ = some (.int .i64 a.sq) ∧ w'.cell? ⟨w.heap.size, 3, none⟩ = some (.int .i64 a.tm) ∧ w'.cell? ⟨w.heap.size + 1, 0, none⟩ = some (.int .i64 b.t) ∧ w'.cell? ⟨w.heap.size + 1, 1, none⟩ = some (.int .i64 b.s) ∧ w'.cell? ⟨w.heap.size + 1, 2, none⟩ = some (.int .i64 b.n)) w2) := Lib.hid (by subst e2; (first | exact ⟨‹_›, ‹_›⟩ | (go_simp; done) | (simp [*]; done))); have hGG : Hid (Grows (fun w' => w'.cell? ⟨w.heap.size, 0, none⟩ = some (.int .i64 a.src) ∧ w'.cell? ⟨w.heap.size, 1, none⟩ = some (.int .i64 a.sq) ∧ w'.cell? ⟨w.heap.size, 3, none⟩ = some (.int .i64 a.tm) ∧ w'.cell? ⟨w.heap.size + 1, 0, none⟩ = some (.int .i64 b.t) ∧ w'.cell? ⟨w.heap.size + 1, 1, none⟩ = some (.int .i64 b.s) ∧ w'.cell? ⟨w.heap.size + 1, 2, none⟩ = some (.int .i64 b.n))) := (by repeat (first | exact grows_cell _ _ _ | exact grows_true | refine grows_and ?_ ?_)); have hg2 : Gr w w2 := (by subst e2; exact (by repeat (first | exact Gr.refl _ | assumption | refine Gr.drew ?_ | refine Gr.alloc ?_ _ | refine Gr.set ?_ (by omega) _ | refine Gr.trans ?_ (by assumption)))); clear e2; have hFF' := hFF.out; go_region_held3 (fun w' => w'.cell? ⟨w.heap.size, 0, none⟩ = some (.int .i64 a.src) ∧ w'.cell? ⟨w.heap.size, 1, none⟩ = some (.int .i64 a.sq) ∧ w'.cell? ⟨w.heap.size, 3, none⟩ = some (.int .i64 a.tm) ∧ w'.cell? ⟨w.heap.size + 1, 0, none⟩ = some (.int .i64 b.t) ∧ w'.cell? ⟨w.heap.size + 1, 1, none⟩ = some (.int .i64 b.s) ∧ w'.cell? ⟨w.heap.size + 1, 2, none⟩ = some (.int .i64 b.n)) (with_reducible exact hGG.out.to (Gr.below (by repeat (first | with_reducible exact Gr.refl _ | assumption | with_reducible refine Gr.drew ?_ | with_reducible refine Gr.alloc ?_ _ | with_reducible refine Gr.trans ?_ (by assumption)))) hFF.out) (first | (go_at_call 25; refine (compare_any _ _ _).mono ?_; rintro e w' ⟨rfl, rfl⟩) | (go_at_call 24; refine (or_three _ (cmpI a.tm b.t) (cmpI a.src b.s) (cmpI a.sq b.n) _ ?_ ?_ ?_).mono ?_; (go_simp); (go_simp); (go_simp); rintro e w' ⟨rfl, rfl⟩))
  all_goals
    go_wp2
    go_ret
    exact ⟨rfl, (by repeat (first | exact Gr.refl _ | assumption | refine Gr.drew ?_ | refine Gr.alloc ?_ _ | refine Gr.set ?_ (by omega) _ | refine Gr.trans ?_ (by assumption)))⟩
/-- the program's and the reference's order of two Refs, each by its numbers -/
theorem rorder_raw (t1 s1 n1 t2 s2 n2 : Int) (w : World) : Calls Tryd.prog 71 #[.agg #[.int .i64 t1, .int .i64 s1, .int .i64 n1], .agg #[.int .i64 t2, .int .i64 s2, .int .i64 n2]] w fun e w' => e = .returned (.int .i64 (refsC ⟨0, t1, s1, n1⟩ ⟨0, t2, s2, n2⟩)) ∧ Gr w w' :=
  rrefs_bnd ⟨0, t1, s1, n1⟩ ⟨0, t2, s2, n2⟩ w
end Go.Proofs.YtclpglgigpjfoaaDoor
