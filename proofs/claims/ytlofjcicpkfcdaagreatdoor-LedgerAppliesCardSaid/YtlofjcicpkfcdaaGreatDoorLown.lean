/- slices.Clone at bindings; ledger.own. -/
import Derived.Test.YtlofjcicpkfcdaaGreatDoorLled2
import Derived.OwnWalk
namespace Go.Proofs.YtlofjcicpkfcdaaGreatDoor
open Go.RowKit

/-- a new row with these cells is handed back; what was there is as it was -/
def OwnRet (e sz n : Nat) (cs : List Value) (w : World) (x : Ending) (w' : World) : Prop := ∃ v', x = .returned v' ∧ w'.ownsRow w.heap.size e sz v' n cs ∧ Below w.heap.size w w'
theorem info_bnd : (Tryz.prog.info? 74).map (fun i => (i.zero, i.size, i.bytes)) = some (some (.agg #[.int .i64 0, .int .i64 0, .int .i64 0, .int .i64 0]), 4, 32) := by kernel_rfl
theorem info_ent : (Tryz.prog.info? 45).map (fun i => (i.zero, i.size, i.bytes)) = some (some (.agg #[.int .i64 0, .slice none 0 0, .int .i64 0]), 3, 40) := by kernel_rfl
theorem info_mat : (Tryz.prog.info? 30).map (fun i => (i.zero, i.size, i.bytes)) = some (some (.agg #[.slice none 0 0]), 1, 24) := by kernel_rfl
theorem info_chg : (Tryz.prog.info? 32).map (fun i => (i.zero, i.size, i.bytes)) = some (some (.agg #[.int .i64 0, .int .i64 0, .slice none 0 0]), 3, 40) := by kernel_rfl

theorem cloneBnds (A : Option Addr) (n c : Nat) (cs : List Value) (w : World) (hs : Src w A n 4 cs) (hn : n ≤ 1048576) :
    Calls Tryz.prog 49 #[.slice A n c] w (OwnRet 74 4 n cs w) := by
  obtain ⟨i0, hi, hz0, hz1, hz2⟩ := info_parts info_bnd
  have he := fun W => Lib.run_eql_slice_nil W 28 74 A n c 0 0 Tryz.underlying28
  cases A with
  | none =>
    have h0 : n = 0 := by
      rcases Nat.eq_zero_or_pos n with h | h
      · exact h
      · obtain ⟨b, o, hA, _⟩ := hs.2.2 h; cases hA
    subst h0
    have hcs : cs = [] := List.eq_nil_of_length_eq_zero (by simpa using hs.1)
    subst hcs
    clear hs
    go_enter Tryz.func49, Tryz.ntmps49
    go_wp2
    go_ret
    exact ⟨_, rfl, ⟨by simp, .inl ⟨rfl, rfl⟩⟩, Below.refl _ _⟩
  | some ad =>
    have HS := Lib.hid hs
    clear hs
    go_enter Tryz.func49, Tryz.ntmps49
    go_wp2_with (at_builtin; refine wpList_app _ rfl (.tmp 5) (.tmp 6) 28 rfl w.heap.size 74 i0 _ 4 32 Tryz.underlying28 hi hz0 hz1 hz2 rfl (by decide) (.slice (some ⟨w.heap.size, 0, none⟩) 0 0) 0 [] rfl (ownsRow_empty w _ _ _ (Nat.le_refl _)) (some ad) n c cs rfl (HS.out.stays (bel_al (Below.refl _ _) _)) (by unfold maxLen; omega) (by omega) (by simp) ?_; intro v1 w1 hown hg hloc)
    go_ret
    exact ⟨_, rfl, by simpa using hown, (bel_al (Below.refl _ _) _).trans (grown_below hg (by simp) (fun g h => Nat.le_of_eq (by simpa [Value.ownBlock] using h)))⟩

/-- bindings in memory that was not there -/
def NewBnds (B : Nat) (w : World) (v : Value) (l : List Bnd) : Prop := IsBnds w v l ∧ ∀ g, v.ownBlock = some g → B ≤ g ∧ g < w.heap.size

set_option maxHeartbeats 1000000 in
theorem own_any (l : List Bnd) (v : Value) (w : World) (hl : IsBnds w v l) (hn : l.length ≤ 1048576) :
    Calls Tryz.prog 29 #[matV v] w fun e w' => ∃ v', e = .returned (matV v') ∧ NewBnds w.heap.size w' v' l ∧ Below w.heap.size w w' := by
  unfold matV
  obtain ⟨A, c, rfl, h1, h2, hat⟩ := hl
  obtain ⟨cs, hm, hs, -⟩ := means_of_sl bndAt_movable ⟨A, c, rfl, h1, h2, hat⟩
  have HM := Lib.hid hm
  have HS := Lib.hid hs
  clear hm hs hat h1 h2
  go_enter Tryz.func29, Tryz.ntmps29
  go_wp2_with (go_at_call 49; refine (cloneBnds A l.length c cs _ (HS.out.stays (by repeat (first | exact Below.refl _ _ | assumption | refine Below.drew ?_ | refine bel_al ?_ _ | refine bel_set ?_ (by omega) _ | refine bel_tr ?_ (by assumption)))) hn).mono ?_; rintro e w3 ⟨v3, rfl, ho3, hb3⟩; obtain ⟨A3, c3, rfl⟩ := slice_own ho3; have hnc := (two_new hb3).2.1; have hnf := (new_cells hb3).2; simp only [World.size_alloc] at hnf ho3; have z0 : w3.cell? ⟨w.heap.size + 1, 0, none⟩ = some (.slice none 0 0) := hnc 0; have zf := hnf 0; have HB3 := Lib.hid hb3; have HO3 := Lib.hid ho3; clear hnc hnf hb3 ho3)
  have hb0 : Below w.heap.size w w3 := bel_tr (bel_one _ _) (bel_tr (bel_one _ _) HB3.out)
  have hk := ownsRow_kept (w' := w3.setCell ⟨w.heap.size + 1, 0, none⟩ (.slice A3 l.length c3)) HO3.out (fun g hg => by
    have h5 := (ownsRow_lt HO3.out hg).1
    rw [Below.heap_setCell _ _ _ _ (by simp only; omega)])
  refine bodyPost_ret (v := .agg #[.slice A3 l.length c3]) (by simp [results, Tryz.results29, go_sem, z0]) rfl ⟨_, rfl, ⟨sl_of_means HM.out (bel_set hb0 (by omega) _) hk, fun g hg => ?_⟩, bel_set hb0 (by omega) _⟩
  have := ownsRow_lt hk hg
  exact ⟨by omega, this.2⟩
end Go.Proofs.YtlofjcicpkfcdaaGreatDoor
