/- The error of an item, as the program and as the reference find it. -/
import Derived.Test.YteonfoaemljndaaProg
import Derived.Test.YteonfoaemljndaaData
namespace Go.Proofs.Yteonfoaemljndaa
open Go.RowKit

theorem empty_any (x : Item) (A : Option Addr) (c : Nat) (w : World) :
    Calls Try.prog 51 #[.agg #[.int .i64 x.source, .int .i64 x.seq, .int .i64 x.type, .int .i64 x.time, .slice A x.values.length c]] w fun e w' =>
      e = .returned (.bool (emptyB x)) ∧ Below w.heap.size w w' := by
  go_enter Try.func51, Try.ntmps51
  go_wp2
  all_goals
    go_ret
    refine ⟨?_, (by repeat (first | exact Below.refl _ _ | assumption | refine Below.drew ?_ | refine bel_al ?_ _ | refine bel_set ?_ (by omega) _ | refine bel_tr ?_ (by assumption)))⟩
    simp_all [emptyB]

theorem item_any (x : Item) (A : Option Addr) (c : Nat) (w : World) :
    Calls Try.prog 42 #[itemV x (.slice A x.values.length c)] w fun e w' =>
      e = .returned (.int .i64 (itemErr x)) ∧ Below w.heap.size w w' := by
  unfold itemV
  go_enter Try.func42, Try.ntmps42
  go_wp2_with (go_at_call 51; refine (empty_any x A c _).mono ?_; rintro e w' ⟨rfl, hb⟩)
  all_goals
    go_ret
    refine ⟨?_, (by repeat (first | exact Below.refl _ _ | assumption | refine Below.drew ?_ | refine bel_al ?_ _ | refine bel_set ?_ (by omega) _ | refine bel_tr ?_ (by assumption)))⟩
    congr 2
    unfold itemErr
    first | (simp_all; done) | (simp_all; omega)

theorem ritem_any (x : Item) (A : Option Addr) (c : Nat) (w : World) :
    Calls Try.prog 43 #[itemV x (.slice A x.values.length c)] w fun e w' =>
      e = .returned (.int .i64 (itemErr x)) ∧ Below w.heap.size w w' := by
  unfold itemV
  go_enter Try.func43, Try.ntmps43
  go_wp2
  all_goals
    go_ret
    refine ⟨?_, (by repeat (first | exact Below.refl _ _ | assumption | refine Below.drew ?_ | refine bel_al ?_ _ | refine bel_set ?_ (by omega) _ | refine bel_tr ?_ (by assumption)))⟩
    congr 2
    unfold itemErr emptyB
    first | (simp_all; done) | (simp_all; omega)
end Go.Proofs.Yteonfoaemljndaa
