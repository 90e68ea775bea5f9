/- Cells of a block that stay. -/
import Derived.Test.YteonfoaemljndaaJoins1
namespace Go.Proofs.Yteonfoaemljndaa
open Go.RowKit

theorem arr_keep {W W' : World} {b : Nat} {arr : Array Value} (h : ∀ j, W.cell? ⟨b, j, none⟩ = arr[j]?) (hl : b < W.heap.size) (hb : Below W.heap.size W W') : ∀ j, W'.cell? ⟨b, j, none⟩ = arr[j]? :=
  fun j => (World.cell?_of_block (hb.block b hl)).trans (h j)
end Go.Proofs.Yteonfoaemljndaa
