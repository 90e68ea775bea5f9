/- slices.Clone at items and at queues. -/
import Derived.Test.YteonfoaemljndaaProg
import Derived.Test.YteonfoaemljndaaMem
import Derived.Test.YteonfoaemljndaaData
namespace Go.Proofs.Yteonfoaemljndaa
open Go.RowKit

theorem info_item : (Try.prog.info? 39).map (fun i => (i.zero, i.size, i.bytes)) = some (some (.agg #[.int .i64 0, .int .i64 0, .int .i64 0, .int .i64 0, .int .i64 0, .slice none 0 0, .int .i64 0]), 7, 72) := by kernel_rfl
theorem info_queue : (Try.prog.info? 69).map (fun i => (i.zero, i.size, i.bytes)) = some (some (.agg #[.int .i64 0, .int .i64 0, .slice none 0 0]), 3, 40) := by kernel_rfl

/-- a new row with these cells is handed back; what was there is as it was -/
def OwnRet (e sz n : Nat) (cs : List Value) (w : World) (x : Ending) (w' : World) : Prop := ∃ v', x = .returned v' ∧ w'.ownsRow w.heap.size e sz v' n cs ∧ Below w.heap.size w w'

theorem cloneItems (A : Option Addr) (n c : Nat) (cs : List Value) (w : World) (hs : Src w A n 7 cs) (hn : n ≤ 1048576) :
    Calls Try.prog 45 #[.slice A n c] w (OwnRet 39 7 n cs w) := by
  obtain ⟨i0, hi, hz0, hz1, hz2⟩ := info_parts info_item
  have he := fun W => Lib.run_eql_slice_nil W 24 39 A n c 0 0 Try.underlying24
  cases A with
  | none =>
    have h0 : n = 0 := by
      rcases Nat.eq_zero_or_pos n with h | h
      · exact h
      · obtain ⟨b, o, hA, _⟩ := hs.2.2 h; cases hA
    subst h0
    have hcs : cs = [] := List.eq_nil_of_length_eq_zero (by simpa using hs.1)
    subst hcs
    clear hs
    go_enter Try.func45, Try.ntmps45
    go_wp2
    go_ret
    exact ⟨_, rfl, ⟨by simp, .inl ⟨rfl, rfl⟩⟩, Below.refl _ _⟩
  | some ad =>
    have HS := Lib.hid hs
    clear hs
    go_enter Try.func45, Try.ntmps45
    go_wp2_with (at_builtin; refine wpList_app _ rfl (.tmp 5) (.tmp 6) 24 rfl w.heap.size 39 i0 _ 7 72 Try.underlying24 hi hz0 hz1 hz2 rfl (by decide) (.slice (some ⟨w.heap.size, 0, none⟩) 0 0) 0 [] rfl (ownsRow_empty w _ _ _ (Nat.le_refl _)) (some ad) n c cs rfl (HS.out.stays (bel_al (Below.refl _ _) _)) (by unfold maxLen; omega) (by omega) (by simp) ?_; intro v1 w1 hown hg hloc)
    go_ret
    exact ⟨_, rfl, by simpa using hown, (bel_al (Below.refl _ _) _).trans (grown_below hg (by simp) (fun g h => Nat.le_of_eq (by simpa [Value.ownBlock] using h)))⟩

theorem cloneQueues (A : Option Addr) (n c : Nat) (cs : List Value) (w : World) (hs : Src w A n 3 cs) (hn : n ≤ 1048576) :
    Calls Try.prog 50 #[.slice A n c] w (OwnRet 69 3 n cs w) := by
  obtain ⟨i0, hi, hz0, hz1, hz2⟩ := info_parts info_queue
  have he := fun W => Lib.run_eql_slice_nil W 22 69 A n c 0 0 Try.underlying22
  cases A with
  | none =>
    have h0 : n = 0 := by
      rcases Nat.eq_zero_or_pos n with h | h
      · exact h
      · obtain ⟨b, o, hA, _⟩ := hs.2.2 h; cases hA
    subst h0
    have hcs : cs = [] := List.eq_nil_of_length_eq_zero (by simpa using hs.1)
    subst hcs
    clear hs
    go_enter Try.func50, Try.ntmps50
    go_wp2
    go_ret
    exact ⟨_, rfl, ⟨by simp, .inl ⟨rfl, rfl⟩⟩, Below.refl _ _⟩
  | some ad =>
    have HS := Lib.hid hs
    clear hs
    go_enter Try.func50, Try.ntmps50
    go_wp2_with (at_builtin; refine wpList_app _ rfl (.tmp 5) (.tmp 6) 22 rfl w.heap.size 69 i0 _ 3 40 Try.underlying22 hi hz0 hz1 hz2 rfl (by decide) (.slice (some ⟨w.heap.size, 0, none⟩) 0 0) 0 [] rfl (ownsRow_empty w _ _ _ (Nat.le_refl _)) (some ad) n c cs rfl (HS.out.stays (bel_al (Below.refl _ _) _)) (by unfold maxLen; omega) (by omega) (by simp) ?_; intro v1 w1 hown hg hloc)
    go_ret
    exact ⟨_, rfl, by simpa using hown, (bel_al (Below.refl _ _) _).trans (grown_below hg (by simp) (fun g h => Nat.le_of_eq (by simpa [Value.ownBlock] using h)))⟩
end Go.Proofs.Yteonfoaemljndaa
