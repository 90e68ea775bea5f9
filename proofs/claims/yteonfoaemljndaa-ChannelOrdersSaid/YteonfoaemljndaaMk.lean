/- The marks and events of the examples. -/
import Derived.Test.YteonfoaemljndaaBefore
namespace Go.Proofs.Yteonfoaemljndaa
open Go.RowKit

def markI (n : Int) : Item := ⟨1, 0, 0, 0, 0, [], n⟩
def eventI (s : Int) : Item := ⟨0, 0, s, 0, 0, [], 0⟩
def barrierI (n : Int) : Item := ⟨2, 0, 0, 0, 0, [], n⟩

theorem mark_any (n : Int) (w : World) : Calls Try.prog 34 #[.int .i64 n] w fun e w' => e = .returned (itemV (markI n) (.slice none 0 0)) ∧ Below w.heap.size w w' := by
  go_enter Try.func34, Try.ntmps34
  go_wp2
  exact bodyPost_ret (v := itemV (markI n) (.slice none 0 0)) (by simp [results, Try.results34, go_sem, itemV, markI]) rfl ⟨rfl, bel_one _ _⟩

theorem event_any (n : Int) (w : World) : Calls Try.prog 35 #[.int .i64 n] w fun e w' => e = .returned (itemV (eventI n) (.slice none 0 0)) ∧ Below w.heap.size w w' := by
  go_enter Try.func35, Try.ntmps35
  go_wp2
  exact bodyPost_ret (v := itemV (eventI n) (.slice none 0 0)) (by simp [results, Try.results35, go_sem, itemV, eventI]) rfl ⟨rfl, bel_one _ _⟩
end Go.Proofs.Yteonfoaemljndaa
