/- The laws' own example: a match with one binding. -/
import Derived.Test.YtlofjcicpkfcdaaGreatDoorLled3
namespace Go.Proofs.YtlofjcicpkfcdaaGreatDoor
open Go.RowKit

def oneB (t : Int) : List Bnd := [⟨0, t, 0, 0⟩]
theorem bnds_one {W : World} {b : Nat} {v t s n : Int} (h0 : W.cell? ⟨b, 0, none⟩ = some (.int .i64 v)) (h1 : W.cell? ⟨b, 1, none⟩ = some (.int .i64 t)) (h2 : W.cell? ⟨b, 2, none⟩ = some (.int .i64 s)) (h3 : W.cell? ⟨b, 3, none⟩ = some (.int .i64 n)) : IsBnds W (.slice (some ⟨b, 0, none⟩) 1 1) [⟨v, t, s, n⟩] :=
  ⟨_, 1, rfl, Nat.le_refl _, by decide, fun k u hk => ⟨b, 0, rfl, by
    match k, hk with
    | 0, hk => simp at hk; subst hk; exact ⟨h0, h1, h2, h3⟩
    | k + 1, hk => simp at hk⟩⟩
theorem single_any (t : Int) (w : World) : Calls Tryz.prog 16 #[.int .i64 t] w fun e w' => ∃ A, e = .returned (.agg #[.slice A 1 1]) ∧ IsBnds w' (.slice A 1 1) (oneB t) ∧ Below w.heap.size w w' := by
  go_enter Tryz.func16, Tryz.ntmps16
  go_wp2_with fail
  exact bodyPost_ret (v := .agg #[.slice (some ⟨w.heap.size + 1, 0, none⟩) 1 1]) (by simp [results, Tryz.results16, go_sem]) rfl ⟨_, rfl, bnds_one (by go_simp) (by go_simp) (by go_simp) (by go_simp), (by repeat (first | exact Below.refl _ _ | assumption | refine Below.drew ?_ | refine bel_al ?_ _ | refine bel_set ?_ (by omega) _ | refine bel_tr ?_ (by assumption)))⟩
end Go.Proofs.YtlofjcicpkfcdaaGreatDoor
