/- One zone handed to a function of zones. -/
import Derived.Test.YtgecbjjcjemcgaaDlaw
namespace Go.Proofs.Ytgecbjjcjemcgaa
open Go.RowKit

theorem zns_one (W : World) (n : Int) (A : Option Addr) (m c k : Nat) (bs : List Bd) (t : TypeId) (hk : k = W.heap.size) : IsZns (W.alloc (.cells #[.int .i64 n, .slice A m c] t)) (.slice (some ⟨k, 0, none⟩) 1 1) [⟨n, A, m, c, bs⟩] := by
  subst hk
  refine ⟨_, _, rfl, Nat.le_refl _, by unfold maxLen; simp, ?_⟩
  intro i x hi
  cases i with
  | zero =>
    simp at hi; subst hi
    exact ⟨_, _, rfl, by simp, by simp⟩
  | succ i => simp at hi

end Go.Proofs.Ytgecbjjcjemcgaa
