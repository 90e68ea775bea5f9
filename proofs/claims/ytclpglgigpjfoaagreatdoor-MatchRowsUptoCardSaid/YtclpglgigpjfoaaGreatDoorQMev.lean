/- Events: their Refs, their order, as the program and as the references have them. -/
import Derived.Test.YtclpglgigpjfoaaGreatDoorQLcmp
import Derived.Test.YtclpglgigpjfoaaGreatDoorQLdata
import Derived.Test.YtclpglgigpjfoaaGreatDoorQLplain
import Derived.Laws.StructEq
import Derived.Shelf.SlicesE.Kit
import Derived.Handy
namespace Go.Proofs.YtclpglgigpjfoaaGreatDoor
open Go.RowKit

theorem evRef_raw (s q y t : Int) (A : Option Addr) (n c : Nat) (w : World) : Calls Tryz.prog 125 #[.agg #[.int .i64 s, .int .i64 q, .int .i64 y, .int .i64 t, .slice A n c]] w fun e w' => e = .returned (.agg #[.int .i64 t, .int .i64 s, .int .i64 q]) ∧ Gr w w' := by
  go_enter Tryz.func125, Tryz.ntmps125
  go_wp2
  go_returns
  exact ⟨rfl, (by repeat (first | exact Gr.refl _ | assumption | refine Gr.drew ?_ | refine Gr.alloc ?_ _ | refine Gr.set ?_ (by omega) _ | refine Gr.trans ?_ (by assumption)))⟩
theorem rRef_raw (s q y t : Int) (A : Option Addr) (n c : Nat) (w : World) : Calls Tryz.prog 37 #[.agg #[.int .i64 s, .int .i64 q, .int .i64 y, .int .i64 t, .slice A n c]] w fun e w' => e = .returned (.agg #[.int .i64 t, .int .i64 s, .int .i64 q]) ∧ Gr w w' := by
  go_enter Tryz.func37, Tryz.ntmps37
  go_wp2
  go_returns
  exact ⟨rfl, (by repeat (first | exact Gr.refl _ | assumption | refine Gr.drew ?_ | refine Gr.alloc ?_ _ | refine Gr.set ?_ (by omega) _ | refine Gr.trans ?_ (by assumption)))⟩
theorem evOf_raw (s q y t : Int) (A : Option Addr) (n c : Nat) (w : World) : Calls Tryz.prog 88 #[.agg #[.int .i64 s, .int .i64 q, .int .i64 y, .int .i64 t, .slice A n c]] w fun e w' => e = .returned (.agg #[.int .i64 s, .int .i64 q]) ∧ Gr w w' := by
  go_enter Tryz.func88, Tryz.ntmps88
  go_wp2
  go_returns
  exact ⟨rfl, (by repeat (first | exact Gr.refl _ | assumption | refine Gr.drew ?_ | refine Gr.alloc ?_ _ | refine Gr.set ?_ (by omega) _ | refine Gr.trans ?_ (by assumption)))⟩
def refEq (a b : Bnd) : Bool := a.t == b.t && (a.s == b.s && a.n == b.n)
theorem refsC_zero {a b : Bnd} : refsC a b = 0 ↔ a.t = b.t ∧ a.s = b.s ∧ a.n = b.n := by
  unfold refsC
  rw [orI_zero, orI_zero, cmpI_eq, cmpI_eq, cmpI_eq, and_assoc]
theorem refEq_iff {a b : Bnd} : refEq a b = decide (refsC a b = 0) := by
  rw [Bool.eq_iff_iff, decide_eq_true_eq, refsC_zero]
  simp [refEq]
theorem ref_eql (a b : Bnd) (W : World) : (binOp .eql 74 (refV a) (refV b)).run Tryz.prog W = .ok (.bool (refEq a b)) W := by
  have u3 := Tryz.underlying3
  have a3 := Tryz.isAgg3
  have z3 := Tryz.sizeOf3
  have hS : Tryz.prog.underlying 74 = some (.struct (Tryz.prog.fieldsOf 74)) := by kernel_rfl
  have hp : Tryz.prog.stoodInHeld 74 = false := by kernel_rfl
  unfold refV
  rw [run_eql_struct, show (10000 : Nat) = 9999 + 1 from rfl, run_equalIn_agg W 9999 74 _ _ hS hp]
  simp only [Program.fieldsOf, Tryz.underlying74]
  go_simp
  by_cases h1 : a.t = b.t <;> by_cases h2 : a.s = b.s <;> by_cases h3 : a.n = b.n <;> simp [refEq, h1, h2, h3]

/-- the ten cells of two boxed events -/
abbrev TwoEv (B C : Nat) (a b : Evt) (A : Option Addr) (n c : Nat) (A2 : Option Addr) (m d : Nat) (W : World) : Prop :=
  W.cell? ⟨B, 0, none⟩ = some (.int .i64 a.src) ∧ W.cell? ⟨B, 1, none⟩ = some (.int .i64 a.sq) ∧ W.cell? ⟨B, 2, none⟩ = some (.int .i64 a.ty) ∧ W.cell? ⟨B, 3, none⟩ = some (.int .i64 a.tm) ∧ W.cell? ⟨B, 4, none⟩ = some (.slice A n c) ∧
  W.cell? ⟨C, 0, none⟩ = some (.int .i64 b.src) ∧ W.cell? ⟨C, 1, none⟩ = some (.int .i64 b.sq) ∧ W.cell? ⟨C, 2, none⟩ = some (.int .i64 b.ty) ∧ W.cell? ⟨C, 3, none⟩ = some (.int .i64 b.tm) ∧ W.cell? ⟨C, 4, none⟩ = some (.slice A2 m d)
set_option maxHeartbeats 1000000 in
theorem evcmp_any (a b : Evt) (A B : Option Addr) (n c m d : Nat) (w : World) :
    Calls Tryz.prog 87 #[evtV a (.slice A n c), evtV b (.slice B m d)] w fun e w' => e = .returned (.int .i64 (refsC (eRef a) (eRef b))) ∧ Gr w w' := by
  obtain ⟨r, hr⟩ : ∃ r, refEq (eRef a) (eRef b) = r := ⟨_, rfl⟩
  have he : ∀ W, (binOp .eql 74 (refV (eRef a)) (refV (eRef b))).run Tryz.prog W = .ok (.bool r) W := fun W => by rw [ref_eql, hr]
  unfold refV eRef at he
  rw [refEq_iff] at hr
  cases r
  · clear hr
    unfold refsC eRef
    unfold evtV
    go_enter Tryz.func87, Tryz.ntmps87
    go_wp2_with fail
    refine wp_gen fun w2 e2 => ?_; have hFF : Hid ((fun w' => w'.cell? ⟨w.heap.size, 0, none⟩ = some (.int .i64 a.src) ∧ w'.cell? ⟨w.heap.size, 1, none⟩ = some (.int .i64 a.sq) ∧ w'.cell? ⟨w.heap.size, 2, none⟩ = some (.int .i64 a.ty) ∧ w'.cell? ⟨w.heap.size, 3, none⟩ = some (.int .i64 a.tm) ∧ w'.cell? ⟨w.heap.size, 4, none⟩ = some (.slice A n c) ∧ w'.cell? ⟨w.heap.size + 1, 0, none⟩ = some (.int .i64 b.src) ∧ w'.cell? ⟨w.heap.size + 1, 1, none⟩ = some (.int .i64 b.sq) ∧ w'.cell? ⟨w.heap.size + 1, 2, none⟩ = some (.int .i64 b.ty) ∧ w'.cell? ⟨w.heap.size + 1, 3, none⟩ = some (.int .i64 b.tm) ∧ w'.cell? ⟨w.heap.size + 1, 4, none⟩ = some (.slice B m d)) w2) := Lib.hid (by subst e2; (first | exact ⟨‹_›, ‹_›⟩ | (go_simp; done) | (simp [*]; done))); have hGG : Hid (Grows (fun w' => w'.cell? ⟨w.heap.size, 0, none⟩ = some (.int .i64 a.src) ∧ w'.cell? ⟨w.heap.size, 1, none⟩ = some (.int .i64 a.sq) ∧ w'.cell? ⟨w.heap.size, 2, none⟩ = some (.int .i64 a.ty) ∧ w'.cell? ⟨w.heap.size, 3, none⟩ = some (.int .i64 a.tm) ∧ w'.cell? ⟨w.heap.size, 4, none⟩ = some (.slice A n c) ∧ w'.cell? ⟨w.heap.size + 1, 0, none⟩ = some (.int .i64 b.src) ∧ w'.cell? ⟨w.heap.size + 1, 1, none⟩ = some (.int .i64 b.sq) ∧ w'.cell? ⟨w.heap.size + 1, 2, none⟩ = some (.int .i64 b.ty) ∧ w'.cell? ⟨w.heap.size + 1, 3, none⟩ = some (.int .i64 b.tm) ∧ w'.cell? ⟨w.heap.size + 1, 4, none⟩ = some (.slice B m d))) := (by repeat (first | exact grows_cell _ _ _ | exact grows_true | refine grows_and ?_ ?_)); have hg2 : Gr w w2 := (by subst e2; exact (by repeat (first | exact Gr.refl _ | assumption | refine Gr.drew ?_ | refine Gr.alloc ?_ _ | refine Gr.set ?_ (by omega) _ | refine Gr.trans ?_ (by assumption)))); clear e2; have hFF' := hFF.out; go_region_held3 (fun w' => w'.cell? ⟨w.heap.size, 0, none⟩ = some (.int .i64 a.src) ∧ w'.cell? ⟨w.heap.size, 1, none⟩ = some (.int .i64 a.sq) ∧ w'.cell? ⟨w.heap.size, 2, none⟩ = some (.int .i64 a.ty) ∧ w'.cell? ⟨w.heap.size, 3, none⟩ = some (.int .i64 a.tm) ∧ w'.cell? ⟨w.heap.size, 4, none⟩ = some (.slice A n c) ∧ w'.cell? ⟨w.heap.size + 1, 0, none⟩ = some (.int .i64 b.src) ∧ w'.cell? ⟨w.heap.size + 1, 1, none⟩ = some (.int .i64 b.sq) ∧ w'.cell? ⟨w.heap.size + 1, 2, none⟩ = some (.int .i64 b.ty) ∧ w'.cell? ⟨w.heap.size + 1, 3, none⟩ = some (.int .i64 b.tm) ∧ w'.cell? ⟨w.heap.size + 1, 4, none⟩ = some (.slice B m d)) (with_reducible exact hGG.out.to (Gr.below (by repeat (first | with_reducible exact Gr.refl _ | assumption | with_reducible refine Gr.drew ?_ | with_reducible refine Gr.alloc ?_ _ | with_reducible refine Gr.trans ?_ (by assumption)))) hFF.out) ((go_at_call 125; refine (evRef_raw _ _ _ _ _ _ _ _).mono ?_; rintro e w3 ⟨rfl, hg3⟩))
    all_goals
      rename_i hK
      clear he
      go_wp2_with fail
      have hg9 : Gr w w3 := (by repeat (first | exact Gr.refl _ | assumption | refine Gr.drew ?_ | refine Gr.alloc ?_ _ | refine Gr.set ?_ (by omega) _ | refine Gr.trans ?_ (by assumption)))
      clear hFF hGG hFF' hg2
      obtain ⟨f0, f1, f2, f3, f4, f5, f6, f7, f8, f9⟩ := hK
      have hg8 := Gr.refl w3
      have hFF : Hid ((fun w' => w'.cell? ⟨w.heap.size, 0, none⟩ = some (.int .i64 a.src) ∧ w'.cell? ⟨w.heap.size, 1, none⟩ = some (.int .i64 a.sq) ∧ w'.cell? ⟨w.heap.size, 2, none⟩ = some (.int .i64 a.ty) ∧ w'.cell? ⟨w.heap.size, 3, none⟩ = some (.int .i64 a.tm) ∧ w'.cell? ⟨w.heap.size, 4, none⟩ = some (.slice A n c) ∧ w'.cell? ⟨w.heap.size + 1, 0, none⟩ = some (.int .i64 b.src) ∧ w'.cell? ⟨w.heap.size + 1, 1, none⟩ = some (.int .i64 b.sq) ∧ w'.cell? ⟨w.heap.size + 1, 2, none⟩ = some (.int .i64 b.ty) ∧ w'.cell? ⟨w.heap.size + 1, 3, none⟩ = some (.int .i64 b.tm) ∧ w'.cell? ⟨w.heap.size + 1, 4, none⟩ = some (.slice B m d)) w3) := Lib.hid (by (first | exact ⟨‹_›, ‹_›⟩ | (go_simp; done) | (simp [*]; done))); have hGG : Hid (Grows (fun w' => w'.cell? ⟨w.heap.size, 0, none⟩ = some (.int .i64 a.src) ∧ w'.cell? ⟨w.heap.size, 1, none⟩ = some (.int .i64 a.sq) ∧ w'.cell? ⟨w.heap.size, 2, none⟩ = some (.int .i64 a.ty) ∧ w'.cell? ⟨w.heap.size, 3, none⟩ = some (.int .i64 a.tm) ∧ w'.cell? ⟨w.heap.size, 4, none⟩ = some (.slice A n c) ∧ w'.cell? ⟨w.heap.size + 1, 0, none⟩ = some (.int .i64 b.src) ∧ w'.cell? ⟨w.heap.size + 1, 1, none⟩ = some (.int .i64 b.sq) ∧ w'.cell? ⟨w.heap.size + 1, 2, none⟩ = some (.int .i64 b.ty) ∧ w'.cell? ⟨w.heap.size + 1, 3, none⟩ = some (.int .i64 b.tm) ∧ w'.cell? ⟨w.heap.size + 1, 4, none⟩ = some (.slice B m d))) := (by repeat (first | exact grows_cell _ _ _ | exact grows_true | refine grows_and ?_ ?_)); have hFF' := hFF.out; go_region_held3 (fun w' => w'.cell? ⟨w.heap.size, 0, none⟩ = some (.int .i64 a.src) ∧ w'.cell? ⟨w.heap.size, 1, none⟩ = some (.int .i64 a.sq) ∧ w'.cell? ⟨w.heap.size, 2, none⟩ = some (.int .i64 a.ty) ∧ w'.cell? ⟨w.heap.size, 3, none⟩ = some (.int .i64 a.tm) ∧ w'.cell? ⟨w.heap.size, 4, none⟩ = some (.slice A n c) ∧ w'.cell? ⟨w.heap.size + 1, 0, none⟩ = some (.int .i64 b.src) ∧ w'.cell? ⟨w.heap.size + 1, 1, none⟩ = some (.int .i64 b.sq) ∧ w'.cell? ⟨w.heap.size + 1, 2, none⟩ = some (.int .i64 b.ty) ∧ w'.cell? ⟨w.heap.size + 1, 3, none⟩ = some (.int .i64 b.tm) ∧ w'.cell? ⟨w.heap.size + 1, 4, none⟩ = some (.slice B m d)) (with_reducible exact hGG.out.to (Gr.below (by repeat (first | with_reducible exact Gr.refl _ | assumption | with_reducible refine Gr.drew ?_ | with_reducible refine Gr.alloc ?_ _ | with_reducible refine Gr.trans ?_ (by assumption)))) hFF.out) (first | (go_at_call 55; refine (compare_any _ _ _).mono ?_; rintro e w' ⟨rfl, rfl⟩) | (go_at_call 54; refine (or_three _ (cmpI a.tm b.tm) (cmpI a.src b.src) (cmpI a.sq b.sq) _ ?_ ?_ ?_).mono ?_; (go_simp); (go_simp); (go_simp); rintro e w' ⟨rfl, rfl⟩))
      all_goals
        go_wp2_with fail
        go_ret
        exact ⟨rfl, hg9.trans (by repeat (first | exact Gr.refl _ | assumption | refine Gr.drew ?_ | refine Gr.alloc ?_ _ | refine Gr.set ?_ (by omega) _ | refine Gr.trans ?_ (by assumption)))⟩
  · have h0 : refsC (eRef a) (eRef b) = 0 := by simpa using hr
    rw [h0]
    clear hr h0
    unfold evtV
    go_enter Tryz.func87, Tryz.ntmps87
    go_wp2_with fail
    refine wp_gen fun w2 e2 => ?_; have hFF : Hid ((fun w' => w'.cell? ⟨w.heap.size, 0, none⟩ = some (.int .i64 a.src) ∧ w'.cell? ⟨w.heap.size, 1, none⟩ = some (.int .i64 a.sq) ∧ w'.cell? ⟨w.heap.size, 2, none⟩ = some (.int .i64 a.ty) ∧ w'.cell? ⟨w.heap.size, 3, none⟩ = some (.int .i64 a.tm) ∧ w'.cell? ⟨w.heap.size, 4, none⟩ = some (.slice A n c) ∧ w'.cell? ⟨w.heap.size + 1, 0, none⟩ = some (.int .i64 b.src) ∧ w'.cell? ⟨w.heap.size + 1, 1, none⟩ = some (.int .i64 b.sq) ∧ w'.cell? ⟨w.heap.size + 1, 2, none⟩ = some (.int .i64 b.ty) ∧ w'.cell? ⟨w.heap.size + 1, 3, none⟩ = some (.int .i64 b.tm) ∧ w'.cell? ⟨w.heap.size + 1, 4, none⟩ = some (.slice B m d)) w2) := Lib.hid (by subst e2; (first | exact ⟨‹_›, ‹_›⟩ | (go_simp; done) | (simp [*]; done))); have hGG : Hid (Grows (fun w' => w'.cell? ⟨w.heap.size, 0, none⟩ = some (.int .i64 a.src) ∧ w'.cell? ⟨w.heap.size, 1, none⟩ = some (.int .i64 a.sq) ∧ w'.cell? ⟨w.heap.size, 2, none⟩ = some (.int .i64 a.ty) ∧ w'.cell? ⟨w.heap.size, 3, none⟩ = some (.int .i64 a.tm) ∧ w'.cell? ⟨w.heap.size, 4, none⟩ = some (.slice A n c) ∧ w'.cell? ⟨w.heap.size + 1, 0, none⟩ = some (.int .i64 b.src) ∧ w'.cell? ⟨w.heap.size + 1, 1, none⟩ = some (.int .i64 b.sq) ∧ w'.cell? ⟨w.heap.size + 1, 2, none⟩ = some (.int .i64 b.ty) ∧ w'.cell? ⟨w.heap.size + 1, 3, none⟩ = some (.int .i64 b.tm) ∧ w'.cell? ⟨w.heap.size + 1, 4, none⟩ = some (.slice B m d))) := (by repeat (first | exact grows_cell _ _ _ | exact grows_true | refine grows_and ?_ ?_)); have hg2 : Gr w w2 := (by subst e2; exact (by repeat (first | exact Gr.refl _ | assumption | refine Gr.drew ?_ | refine Gr.alloc ?_ _ | refine Gr.set ?_ (by omega) _ | refine Gr.trans ?_ (by assumption)))); clear e2; have hFF' := hFF.out; go_region_held3 (fun w' => w'.cell? ⟨w.heap.size, 0, none⟩ = some (.int .i64 a.src) ∧ w'.cell? ⟨w.heap.size, 1, none⟩ = some (.int .i64 a.sq) ∧ w'.cell? ⟨w.heap.size, 2, none⟩ = some (.int .i64 a.ty) ∧ w'.cell? ⟨w.heap.size, 3, none⟩ = some (.int .i64 a.tm) ∧ w'.cell? ⟨w.heap.size, 4, none⟩ = some (.slice A n c) ∧ w'.cell? ⟨w.heap.size + 1, 0, none⟩ = some (.int .i64 b.src) ∧ w'.cell? ⟨w.heap.size + 1, 1, none⟩ = some (.int .i64 b.sq) ∧ w'.cell? ⟨w.heap.size + 1, 2, none⟩ = some (.int .i64 b.ty) ∧ w'.cell? ⟨w.heap.size + 1, 3, none⟩ = some (.int .i64 b.tm) ∧ w'.cell? ⟨w.heap.size + 1, 4, none⟩ = some (.slice B m d)) (with_reducible exact hGG.out.to (Gr.below (by repeat (first | with_reducible exact Gr.refl _ | assumption | with_reducible refine Gr.drew ?_ | with_reducible refine Gr.alloc ?_ _ | with_reducible refine Gr.trans ?_ (by assumption)))) hFF.out) ((go_at_call 125; refine (evRef_raw _ _ _ _ _ _ _ _).mono ?_; rintro e w3 ⟨rfl, hg3⟩))
    all_goals
      clear he
      go_wp2_with fail
      go_ret
      exact ⟨rfl, (by repeat (first | exact Gr.refl _ | assumption | refine Gr.drew ?_ | refine Gr.alloc ?_ _ | refine Gr.set ?_ (by omega) _ | refine Gr.trans ?_ (by assumption)))⟩

set_option maxHeartbeats 1000000 in
theorem evplaced_any (x : Evt) (A : Option Addr) (n c : Nat) (w : World) (u : Value) (hu : u = .slice A n c) : Calls Tryz.prog 86 #[evtV x u] w fun e w' => e = .returned (.bool (placedE x)) ∧ Gr w w' := by
  subst hu
  unfold evtV placedE
  obtain ⟨s, q, y, t, vs⟩ := x
  simp only
  by_cases h1 : 0 ≤ t
  · by_cases h2 : t ≤ 1099511627776
    · by_cases h3 : 0 ≤ s
      · by_cases h4 : s < 8
        · by_cases h5 : 0 ≤ q
          · by_cases h6 : q ≤ 1099511627776 <;>
            · go_enter Tryz.func86, Tryz.ntmps86
              go_wp2
              go_ret
              exact ⟨by simp [*], (by repeat (first | exact Gr.refl _ | assumption | refine Gr.drew ?_ | refine Gr.alloc ?_ _ | refine Gr.set ?_ (by omega) _ | refine Gr.trans ?_ (by assumption)))⟩
          · go_enter Tryz.func86, Tryz.ntmps86
            go_wp2
            go_ret
            exact ⟨by simp [*] <;> omega, (by repeat (first | exact Gr.refl _ | assumption | refine Gr.drew ?_ | refine Gr.alloc ?_ _ | refine Gr.set ?_ (by omega) _ | refine Gr.trans ?_ (by assumption)))⟩
        · go_enter Tryz.func86, Tryz.ntmps86
          go_wp2
          go_ret
          exact ⟨by simp [*] <;> omega, (by repeat (first | exact Gr.refl _ | assumption | refine Gr.drew ?_ | refine Gr.alloc ?_ _ | refine Gr.set ?_ (by omega) _ | refine Gr.trans ?_ (by assumption)))⟩
      · go_enter Tryz.func86, Tryz.ntmps86
        go_wp2
        go_ret
        exact ⟨by simp [*] <;> omega, (by repeat (first | exact Gr.refl _ | assumption | refine Gr.drew ?_ | refine Gr.alloc ?_ _ | refine Gr.set ?_ (by omega) _ | refine Gr.trans ?_ (by assumption)))⟩
    · go_enter Tryz.func86, Tryz.ntmps86
      go_wp2
      go_ret
      exact ⟨by simp [*] <;> omega, (by repeat (first | exact Gr.refl _ | assumption | refine Gr.drew ?_ | refine Gr.alloc ?_ _ | refine Gr.set ?_ (by omega) _ | refine Gr.trans ?_ (by assumption)))⟩
  · go_enter Tryz.func86, Tryz.ntmps86
    go_wp2
    go_ret
    exact ⟨by simp [*] <;> omega, (by repeat (first | exact Gr.refl _ | assumption | refine Gr.drew ?_ | refine Gr.alloc ?_ _ | refine Gr.set ?_ (by omega) _ | refine Gr.trans ?_ (by assumption)))⟩
set_option maxHeartbeats 1000000 in
theorem rplacedV_any (x : Evt) (A : Option Addr) (n c : Nat) (w : World) (u : Value) (hu : u = .slice A n c) : Calls Tryz.prog 82 #[evtV x u] w fun e w' => e = .returned (.bool (placedE x)) ∧ Gr w w' := by
  subst hu
  unfold evtV placedE
  obtain ⟨s, q, y, t, vs⟩ := x
  simp only
  by_cases h1 : 0 ≤ t
  · by_cases h2 : t ≤ 1099511627776
    · by_cases h3 : 0 ≤ s
      · by_cases h4 : s < 8
        · by_cases h5 : 0 ≤ q
          · by_cases h6 : q ≤ 1099511627776 <;>
            · go_enter Tryz.func82, Tryz.ntmps82
              go_wp2
              go_ret
              exact ⟨by simp [*], (by repeat (first | exact Gr.refl _ | assumption | refine Gr.drew ?_ | refine Gr.alloc ?_ _ | refine Gr.set ?_ (by omega) _ | refine Gr.trans ?_ (by assumption)))⟩
          · go_enter Tryz.func82, Tryz.ntmps82
            go_wp2
            go_ret
            exact ⟨by simp [*] <;> omega, (by repeat (first | exact Gr.refl _ | assumption | refine Gr.drew ?_ | refine Gr.alloc ?_ _ | refine Gr.set ?_ (by omega) _ | refine Gr.trans ?_ (by assumption)))⟩
        · go_enter Tryz.func82, Tryz.ntmps82
          go_wp2
          go_ret
          exact ⟨by simp [*] <;> omega, (by repeat (first | exact Gr.refl _ | assumption | refine Gr.drew ?_ | refine Gr.alloc ?_ _ | refine Gr.set ?_ (by omega) _ | refine Gr.trans ?_ (by assumption)))⟩
      · go_enter Tryz.func82, Tryz.ntmps82
        go_wp2
        go_ret
        exact ⟨by simp [*] <;> omega, (by repeat (first | exact Gr.refl _ | assumption | refine Gr.drew ?_ | refine Gr.alloc ?_ _ | refine Gr.set ?_ (by omega) _ | refine Gr.trans ?_ (by assumption)))⟩
    · go_enter Tryz.func82, Tryz.ntmps82
      go_wp2
      go_ret
      exact ⟨by simp [*] <;> omega, (by repeat (first | exact Gr.refl _ | assumption | refine Gr.drew ?_ | refine Gr.alloc ?_ _ | refine Gr.set ?_ (by omega) _ | refine Gr.trans ?_ (by assumption)))⟩
  · go_enter Tryz.func82, Tryz.ntmps82
    go_wp2
    go_ret
    exact ⟨by simp [*] <;> omega, (by repeat (first | exact Gr.refl _ | assumption | refine Gr.drew ?_ | refine Gr.alloc ?_ _ | refine Gr.set ?_ (by omega) _ | refine Gr.trans ?_ (by assumption)))⟩

set_option maxHeartbeats 1000000 in
theorem evref_any (a : Evt) (b : Bnd) (A : Option Addr) (n c : Nat) (w : World) :
    Calls Tryz.prog 90 #[evtV a (.slice A n c), refV b] w fun e w' => e = .returned (.int .i64 (refsC (eRef a) b)) ∧ Gr w w' := by
  unfold refsC eRef evtV refV
  go_enter Tryz.func90, Tryz.ntmps90
  go_wp2_with fail
  refine wp_gen fun w2 e2 => ?_; have hFF : Hid ((fun w' => w'.cell? ⟨w.heap.size, 0, none⟩ = some (.int .i64 a.src) ∧ w'.cell? ⟨w.heap.size, 1, none⟩ = some (.int .i64 a.sq) ∧ w'.cell? ⟨w.heap.size, 3, none⟩ = some (.int .i64 a.tm) ∧ w'.cell? ⟨w.heap.size + 1, 0, none⟩ = some (.int .i64 b.t) ∧ w'.cell? ⟨w.heap.size + 1, 1, none⟩ = some (.int .i64 b.s) ∧ w'.cell? ⟨w.heap.size + 1, 2, none⟩ = some (.int .i64 b.n)) w2) := Lib.hid (by subst e2; (first | exact ⟨‹_›, ‹_›⟩ | (go_simp; done) | (simp [*]; done))); have hGG : Hid (Grows (fun w' => w'.cell? ⟨w.heap.size, 0, none⟩ = some (.int .i64 a.src) ∧ w'.cell? ⟨w.heap.size, 1, none⟩ = some (.int .i64 a.sq) ∧ w'.cell? ⟨w.heap.size, 3, none⟩ = some (.int .i64 a.tm) ∧ w'.cell? ⟨w.heap.size + 1, 0, none⟩ = some (.int .i64 b.t) ∧ w'.cell? ⟨w.heap.size + 1, 1, none⟩ = some (.int .i64 b.s) ∧ w'.cell? ⟨w.heap.size + 1, 2, none⟩ = some (.int .i64 b.n))) := (by repeat (first | exact grows_cell _ _ _ | exact grows_true | refine grows_and ?_ ?_)); have hg2 : Gr w w2 := (by subst e2; exact (by repeat (first | exact Gr.refl _ | assumption | refine Gr.drew ?_ | refine Gr.alloc ?_ _ | refine Gr.set ?_ (by omega) _ | refine Gr.trans ?_ (by assumption)))); clear e2; have hFF' := hFF.out; go_region_held3 (fun w' => w'.cell? ⟨w.heap.size, 0, none⟩ = some (.int .i64 a.src) ∧ w'.cell? ⟨w.heap.size, 1, none⟩ = some (.int .i64 a.sq) ∧ w'.cell? ⟨w.heap.size, 3, none⟩ = some (.int .i64 a.tm) ∧ w'.cell? ⟨w.heap.size + 1, 0, none⟩ = some (.int .i64 b.t) ∧ w'.cell? ⟨w.heap.size + 1, 1, none⟩ = some (.int .i64 b.s) ∧ w'.cell? ⟨w.heap.size + 1, 2, none⟩ = some (.int .i64 b.n)) (with_reducible exact hGG.out.to (Gr.below (by repeat (first | with_reducible exact Gr.refl _ | assumption | with_reducible refine Gr.drew ?_ | with_reducible refine Gr.alloc ?_ _ | with_reducible refine Gr.trans ?_ (by assumption)))) hFF.out) (first | (go_at_call 55; refine (compare_any _ _ _).mono ?_; rintro e w' ⟨rfl, rfl⟩) | (go_at_call 54; refine (or_three _ (cmpI a.tm b.t) (cmpI a.src b.s) (cmpI a.sq b.n) _ ?_ ?_ ?_).mono ?_; (go_simp); (go_simp); (go_simp); rintro e w' ⟨rfl, rfl⟩))
  all_goals
    go_wp2
    go_ret
    exact ⟨rfl, (by repeat (first | exact Gr.refl _ | assumption | refine Gr.drew ?_ | refine Gr.alloc ?_ _ | refine Gr.set ?_ (by omega) _ | refine Gr.trans ?_ (by assumption)))⟩
/-- the program's and the reference's order of two Refs, each by its numbers -/
theorem rorder_raw (t1 s1 n1 t2 s2 n2 : Int) (w : World) : Calls Tryz.prog 36 #[.agg #[.int .i64 t1, .int .i64 s1, .int .i64 n1], .agg #[.int .i64 t2, .int .i64 s2, .int .i64 n2]] w fun e w' => e = .returned (.int .i64 (refsC ⟨0, t1, s1, n1⟩ ⟨0, t2, s2, n2⟩)) ∧ Gr w w' :=
  rrefs_bnd ⟨0, t1, s1, n1⟩ ⟨0, t2, s2, n2⟩ w
end Go.Proofs.YtclpglgigpjfoaaGreatDoor
namespace Go.Proofs.YtclpglgigpjfoaaGreatDoor

/-- the event with the Ref of a binding -/
def evOf (l : List Evt) (r : Bnd) : Option Evt := l.find? fun e => decide (refsC (eRef e) r = 0)
def envE1 (l : List Evt) (n : Int) (b : Bnd) : Int := if n ≤ b.v then 10 else if (evOf l b).isNone = true then 6 else 0
def envErr (l : List Evt) (n : Int) (bs : List Bnd) : Int :=
  if strErr l ≠ 0 then strErr l else if inI n 16 = false then 2 else if matErr bs ≠ 0 then matErr bs else scanE (fun _ b => envE1 l n b) none bs
def stepV (l : List Evt) (vs : List (List Evt)) (b : Bnd) : List (List Evt) := match evOf l b with
  | some e => vs.set b.v.toNat (vs.getD b.v.toNat [] ++ [e])
  | none => vs
def envV (l : List Evt) (n : Nat) (bs : List Bnd) : List (List Evt) := bs.foldl (stepV l) (List.replicate n [])
def envR (l : List Evt) (n : Int) (bs : List Bnd) : List (List Evt) × Int := if envErr l n bs = 0 then (envV l n.toNat bs, 0) else ([], envErr l n bs)
theorem envV_take {l : List Evt} {n : Nat} {bs : List Bnd} {k : Nat} {b : Bnd} (h : bs[k]? = some b) : envV l n (bs.take (k + 1)) = stepV l (envV l n (bs.take k)) b := by
  obtain ⟨hk, rfl⟩ := List.getElem?_eq_some_iff.1 h
  unfold envV
  rw [List.take_succ_eq_append_getElem hk, List.foldl_append]; rfl
theorem stepV_len (l : List Evt) (vs : List (List Evt)) (b : Bnd) : (stepV l vs b).length = vs.length := by
  unfold stepV; split <;> simp
theorem envV_len (l : List Evt) (n : Nat) (bs : List Bnd) : (envV l n bs).length = n := by
  unfold envV
  have : ∀ (bs : List Bnd) (vs : List (List Evt)), (bs.foldl (stepV l) vs).length = vs.length := fun bs => by
    induction bs with
    | nil => intro vs; rfl
    | cons b bs ih => intro vs; rw [List.foldl_cons, ih, stepV_len]
  rw [this]; simp
/-- what a variable holds -/
theorem foldV_at (l : List Evt) {n : Nat} : ∀ (bs : List Bnd) (vs : List (List Evt)), (∀ b ∈ bs, 0 ≤ b.v ∧ b.v < (n : Int)) → vs.length = n → ∀ (v : Nat), v < n → (bs.foldl (stepV l) vs)[v]? = (vs[v]?).map fun x => x ++ (ofVar v bs).filterMap (evOf l)
  | [], vs, _, hn, v, hv => by
    rw [List.foldl_nil]
    simp [ofVar, List.getElem?_eq_getElem (show v < vs.length by omega)]
  | b :: bs, vs, hb, hn, v, hv => by
    obtain ⟨h0, h1⟩ := hb b (List.mem_cons_self ..)
    rw [List.foldl_cons, foldV_at l bs _ (fun x hx => hb x (List.mem_cons_of_mem _ hx)) (by rw [stepV_len]; exact hn) v hv]
    have hvv := List.getElem?_eq_getElem (show v < vs.length by omega)
    by_cases e : b.v = (v : Int)
    · have he : b.v.toNat = v := by omega
      have ho : ofVar v (b :: bs) = b :: ofVar v bs := by unfold ofVar; rw [List.filter_cons_of_pos (by simpa using e)]
      unfold stepV
      cases hev : evOf l b with
      | none => simp only [ho]; rw [List.filterMap_cons_none hev]
      | some x =>
        simp only [he, ho]
        rw [List.filterMap_cons_some hev, List.getElem?_set_self (by omega), hvv]
        simp [List.getD_eq_getElem?_getD, hvv]
    · have ho : ofVar v (b :: bs) = ofVar v bs := by unfold ofVar; rw [List.filter_cons_of_neg (by simpa using e)]
      rw [ho]
      unfold stepV
      cases hev : evOf l b with
      | none => rfl
      | some x =>
        simp only
        rw [List.getElem?_set_ne (by omega)]
theorem envV_at (l : List Evt) {n : Nat} {bs : List Bnd} (hb : ∀ b ∈ bs, 0 ≤ b.v ∧ b.v < (n : Int)) {v : Nat} (hv : v < n) : (envV l n bs)[v]? = some ((ofVar v bs).filterMap (evOf l)) := by
  unfold envV
  rw [foldV_at l bs _ hb (by simp) v hv, List.getElem?_replicate, if_pos hv]
  rfl
theorem foldV_row (l : List Evt) : ∀ (bs : List Bnd) (vs : List (List Evt)) (m : Nat), (∀ x ∈ vs, x.length ≤ m) → ∀ x ∈ bs.foldl (stepV l) vs, x.length ≤ m + bs.length
  | [], vs, m, h, x, hx => by simpa using h x hx
  | b :: bs, vs, m, h, x, hx => by
    have := foldV_row l bs (stepV l vs b) (m + 1) (fun y hy => by
      unfold stepV at hy
      split at hy
      · rcases List.mem_or_eq_of_mem_set hy with h1 | h1
        · have := h y h1; omega
        · subst h1
          rw [List.length_append]
          have : (vs.getD b.v.toNat []).length ≤ m := by
            rw [List.getD_eq_getElem?_getD]
            cases hg : vs[b.v.toNat]? with
            | none => simp
            | some z => exact h z (List.mem_of_getElem? hg)
          rw [List.length_singleton]; omega
      · have := h y hy; omega) x hx
    rw [List.length_cons]; omega
theorem envV_row {l : List Evt} {n : Nat} {bs : List Bnd} : ∀ x ∈ envV l n bs, x.length ≤ bs.length := fun x hx => by
  have := foldV_row l bs (List.replicate n []) 0 (fun y hy => by rw [(List.mem_replicate.1 hy).2]; simp) x hx
  omega
theorem hit_some {l : List Evt} {r : Bnd} (ha : l.Pairwise fun a b => refsC (eRef a) (eRef b) < 0) {e : Evt} (he : l[lowE l r]? = some e) (h : refEq (eRef e) r = true) : evOf l r = some e := by
  unfold evOf
  rw [find_low ha, he]
  rw [refEq_iff, decide_eq_true_eq] at h
  simp [Option.filter, h]
theorem hit_none {l : List Evt} {r : Bnd} (ha : l.Pairwise fun a b => refsC (eRef a) (eRef b) < 0) (h : ∀ e, l[lowE l r]? = some e → refEq (eRef e) r = false) : evOf l r = none := by
  unfold evOf
  rw [find_low ha]
  cases he : l[lowE l r]? with
  | none => rfl
  | some e =>
    have := h e he
    rw [refEq_iff, decide_eq_false_iff_not] at this
    simp [Option.filter, this]
/-- a match without an error -/
theorem scan_bnd : ∀ (l : List Bnd) (p : Option Bnd), scanE bndE p l = 0 → ∀ b ∈ l, bndOk b = true
  | [], _, _, b, hb => by simp at hb
  | x :: l, p, h, b, hb => by
    simp only [scanE] at h
    split at h
    · next e =>
      rcases List.mem_cons.1 hb with rfl | hb
      · unfold bndE at e
        cases hx : bndOk b with
        | true => rfl
        | false => rw [if_pos hx] at e; exact absurd e (by decide)
      · exact scan_bnd l _ h b hb
    · next e => exact absurd h e
theorem mat_ok {l : List Bnd} (h : matErr l = 0) : l ≠ [] ∧ l.length ≤ 4096 ∧ ∀ b ∈ l, bndOk b = true := by
  unfold matErr at h
  split at h
  · exact absurd h (by decide)
  · next h0 =>
    split at h
    · exact absurd h (by decide)
    · exact ⟨fun e => h0 (by rw [e]; rfl), by omega, scan_bnd l none h⟩
theorem bndOk_v {b : Bnd} (h : bndOk b = true) : 0 ≤ b.v ∧ b.v < 16 := by
  unfold bndOk inI at h
  simp only [Bool.and_eq_true, decide_eq_true_eq] at h
  omega
theorem envR_err {l : List Evt} {n : Int} {bs : List Bnd} {e : Int} (h : envErr l n bs = e) (h0 : e ≠ 0) : envR l n bs = ([], e) := by unfold envR; rw [h, if_neg h0]
theorem envR_ok {l : List Evt} {n : Int} {bs : List Bnd} (h : envErr l n bs = 0) : envR l n bs = (envV l n.toNat bs, 0) := by unfold envR; rw [if_pos h]
theorem envErr_str {l : List Evt} {n : Int} {bs : List Bnd} {e : Int} (h : strErr l = e) (h0 : e ≠ 0) : envErr l n bs = e := by unfold envErr; rw [h, if_pos h0]
theorem envErr_in {l : List Evt} {n : Int} {bs : List Bnd} (h : strErr l = 0) (h2 : inI n 16 = false) : envErr l n bs = 2 := by unfold envErr; rw [h, if_neg (by simp), if_pos h2]
theorem envErr_mat {l : List Evt} {n : Int} {bs : List Bnd} {e : Int} (h : strErr l = 0) (h2 : ¬ inI n 16 = false) (h3 : matErr bs = e) (h0 : e ≠ 0) : envErr l n bs = e := by unfold envErr; rw [h, if_neg (by simp), if_neg h2, h3, if_pos h0]
theorem envErr_scan {l : List Evt} {n : Int} {bs : List Bnd} (h : strErr l = 0) (h2 : ¬ inI n 16 = false) (h3 : matErr bs = 0) : envErr l n bs = scanE (fun _ b => envE1 l n b) none bs := by unfold envErr; rw [h, if_neg (by simp), if_neg h2, h3, if_neg (by simp)]
theorem envE1_10 {l : List Evt} {n : Int} {b : Bnd} (h : n ≤ b.v) : envE1 l n b = 10 := if_pos h
theorem envE1_6 {l : List Evt} {n : Int} {b : Bnd} (h : ¬ n ≤ b.v) (h2 : evOf l b = none) : envE1 l n b = 6 := by unfold envE1; rw [if_neg h, h2]; rfl
theorem envE1_0 {l : List Evt} {n : Int} {b : Bnd} {e : Evt} (h : ¬ n ≤ b.v) (h2 : evOf l b = some e) : envE1 l n b = 0 := by unfold envE1; rw [if_neg h, h2]; rfl
end Go.Proofs.YtclpglgigpjfoaaGreatDoor
