/- ref05.Check. -/
import Derived.Test.YtclpglgigpjfoaaDoorMstrc
namespace Go.Proofs.YtclpglgigpjfoaaDoor
open Go.RowKit

theorem rRef_bel (s q y t : Int) (A : Option Addr) (n c : Nat) (w : World) : Calls Tryd.prog 26 #[.agg #[.int .i64 s, .int .i64 q, .int .i64 y, .int .i64 t, .slice A n c]] w fun e w' => e = .returned (.agg #[.int .i64 t, .int .i64 s, .int .i64 q]) ∧ Below w.heap.size w w' :=
  (rRef_raw s q y t A n c w).mono fun _ _ ⟨h1, h2⟩ => ⟨h1, h2.below⟩
def twinB (s1 q1 s2 q2 : Int) : Bool := decide (s1 = s2 ∧ q1 = q2)
theorem any_take_next {l : List Evt} {j : Nat} {y x : Evt} (hy : l[j]? = some y) (h : (l.take j).any (twinE x) = false) (hn : twinB y.src y.sq x.src x.sq = false) : (l.take (j + 1)).any (twinE x) = false := by
  rw [take_snoc' hy, List.any_append, h, List.any_cons, List.any_nil]
  have : twinE x y = false := by
    unfold twinE; unfold twinB at hn
    rw [decide_eq_false_iff_not] at hn ⊢
    exact fun ⟨a, b⟩ => hn ⟨a.symm, b.symm⟩
  rw [this]; rfl
theorem any_take_hit {l : List Evt} {k j : Nat} {y x : Evt} (hy : l[j]? = some y) (hj : j < k) (hn : twinB y.src y.sq x.src x.sq = true) : (l.take k).any (twinE x) = true := by
  rw [List.any_eq_true]
  refine ⟨y, ?_, ?_⟩
  · rw [List.mem_iff_getElem?]
    exact ⟨j, by rw [List.getElem?_take_of_lt hj]; exact hy⟩
  · unfold twinE; unfold twinB at hn
    rw [decide_eq_true_eq] at hn ⊢
    exact ⟨hn.1.symm, hn.2.symm⟩

end Go.Proofs.YtclpglgigpjfoaaDoor
