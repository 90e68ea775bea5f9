/- slices.Clone and slices.Reverse at matches: rows of the call's own. -/
import Derived.Test.YtclpglgigpjfoaaGreatDoorKref
namespace Go.Proofs.YtclpglgigpjfoaaGreatDoor
open Go.RowKit

theorem cloneMats (A : Option Addr) (n c : Nat) (cs : List Value) (w : World) (hs : Src w A n 1 cs) (hn : n ≤ 1048576) :
    Calls Tryz.prog 29 #[.slice A n c] w (OwnRet 24 1 n cs w) := by
  obtain ⟨i0, hi, hz0, hz1, hz2⟩ := info_parts info_mat
  have he := fun W => Lib.run_eql_slice_nil W 26 24 A n c 0 0 Tryz.underlying26
  cases A with
  | none =>
    have h0 : n = 0 := by
      rcases Nat.eq_zero_or_pos n with h | h
      · exact h
      · obtain ⟨b, o, hA, _⟩ := hs.2.2 h; cases hA
    subst h0
    have hcs : cs = [] := List.eq_nil_of_length_eq_zero (by simpa using hs.1)
    subst hcs
    clear hs
    go_enter Tryz.func29, Tryz.ntmps29
    go_wp2
    go_ret
    exact ⟨_, rfl, ⟨by simp, .inl ⟨rfl, rfl⟩⟩, Below.refl _ _⟩
  | some ad =>
    have HS := Lib.hid hs
    clear hs
    go_enter Tryz.func29, Tryz.ntmps29
    go_wp2_with (at_builtin; refine wpList_app _ rfl (.tmp 5) (.tmp 6) 26 rfl w.heap.size 24 i0 _ 1 24 Tryz.underlying26 hi hz0 hz1 hz2 rfl (by decide) (.slice (some ⟨w.heap.size, 0, none⟩) 0 0) 0 [] rfl (ownsRow_empty w _ _ _ (Nat.le_refl _)) (some ad) n c cs rfl (HS.out.stays (bel_al (Below.refl _ _) _)) (by unfold maxLen; omega) (by omega) (by simp) ?_; intro v1 w1 hown hg hloc)
    go_ret
    exact ⟨_, rfl, by simpa using hown, (bel_al (Below.refl _ _) _).trans (grown_below hg (by simp) (fun g h => Nat.le_of_eq (by simpa [Value.ownBlock] using h)))⟩

section
variable {α : Type}
/-- after k exchanges -/
def RevAt (ms ns : List α) (k : Nat) : Prop := ns.length = ms.length ∧ ∀ j, j < ms.length → ns[j]? = if j < k ∨ ms.length - k ≤ j then ms[ms.length - 1 - j]? else ms[j]?
theorem rev_end {ms ns : List α} {k : Nat} (h : RevAt ms ns k) (hk : ms.length ≤ 2 * k + 1) (hk2 : 2 * k ≤ ms.length) : ns = ms.reverse := by
  refine List.ext_getElem? fun j => ?_
  by_cases hj : j < ms.length
  · rw [h.2 j hj, List.getElem?_reverse hj]
    split
    · rfl
    · rw [show ms.length - 1 - j = j by omega]
  · rw [List.getElem?_eq_none (by rw [h.1]; omega), List.getElem?_eq_none (by rw [List.length_reverse]; omega)]
theorem rev_step {ms ns : List α} {k : Nat} {x y : α} (h : RevAt ms ns k) (hk : 2 * k + 1 < ms.length) (hx : ns[k]? = some x) (hy : ns[ms.length - 1 - k]? = some y) : RevAt ms ((ns.set k y).set (ms.length - 1 - k) x) (k + 1) := by
  have hx' := h.2 k (by omega)
  have hy' := h.2 (ms.length - 1 - k) (by omega)
  rw [if_neg (by omega), hx] at hx'
  rw [if_neg (by omega), hy] at hy'
  refine ⟨by rw [List.length_set, List.length_set, h.1], fun j hj => ?_⟩
  have hl := h.1
  rw [List.getElem?_set, List.getElem?_set, List.length_set]
  by_cases e1 : ms.length - 1 - k = j
  · rw [if_pos e1, if_pos (by omega), if_pos (by omega), hx']
    congr 1; omega
  · rw [if_neg e1]
    by_cases e2 : k = j
    · rw [if_pos e2, if_pos (by omega), if_pos (by omega), hy']
      congr 1; omega
    · rw [if_neg e2, h.2 j hj]
      by_cases e3 : j < k ∨ ms.length - k ≤ j
      · rw [if_pos e3, if_pos (by omega)]
      · rw [if_neg e3, if_neg (by omega)]
end
theorem valsM_set {l : List MV} {i : Nat} {e : MV} (hi : i < l.length) (r : List Value) : (l.map (·.2) ++ r).set i e.2 = (l.set i e).map (·.2) ++ r := by
  rw [List.set_append_left _ _ (by simpa using hi), List.map_set]
theorem swapM_heap {W : World} {g t : Nat} {cs : List Value} (h : W.heap[g]? = some (.cells cs.toArray t (0, 0))) (i0 i1 : Nat) (v0 v1 : Value) :
    (((W.setCell ⟨g, i0, none⟩ v0).setCell ⟨g, i1, none⟩ v1).drew).heap[g]? = some (.cells ((cs.set i0 v0).set i1 v1).toArray t (0, 0)) := by
  rw [drew_heap]
  exact blk_set (blk_set h i0 v0) i1 v1
theorem swapM_grown (W : World) (g : Nat) (i0 i1 : Nat) (v0 v1 : Value) : W.grownBy (((W.setCell ⟨g, i0, none⟩ v0).setCell ⟨g, i1, none⟩ v1).drew) (some g) :=
  grown_tr (set_grown W g i0 v0) (grown_tr (set_grown _ g i1 v1) (below_grown (Below.refl _ _).drew _))

set_option maxRecDepth 100000 in
set_option maxHeartbeats 4000000 in
theorem reverse_any (ms : List MV) (g cap : Nat) (spare : List Value) (w : World) (hg : w.heap[g]? = some (.cells (ms.map (·.2) ++ spare).toArray 24 (0, 0))) (hc : ms.length ≤ cap) (hm : cap ≤ maxLen) (hu : ∀ e ∈ ms, ∃ A n c, e.2 = .slice A n c) :
    Calls Tryz.prog 30 #[.slice (some ⟨g, 0, none⟩) ms.length cap] w fun e W => e = .returned (.tuple #[]) ∧ W.heap[g]? = some (.cells (ms.reverse.map (·.2) ++ spare).toArray 24 (0, 0)) ∧ w.grownBy W (some g) := by
  have hn := len_i64 hc hm
  have HG := Lib.hid hg
  have HU := Lib.hid hu
  clear hg hu
  go_enter Tryz.func30, Tryz.ntmps30
  go_wp2_with fail
  go_loopw [2, 3] (fun i j wr => ∃ (k : Nat) (ns : List MV), i = .int .i64 k ∧ j = .int .i64 ((ms.length : Int) - 1 - k) ∧ 2 * k ≤ ms.length ∧ Hid (RevAt ms ns k ∧ wr.heap[g]? = some (.cells (ns.map (·.2) ++ spare).toArray 24 (0, 0)) ∧ w.grownBy wr (some g) ∧ ∀ e ∈ ns, ∃ A n c, e.2 = .slice A n c)) (fun i _ _ => ms.length - (intOf i).toNat)
  case atStart => exact ⟨0, ms, rfl, by go_num, by omega, Lib.hid ⟨⟨rfl, fun j hj => by rw [if_neg (by omega)]⟩, HG.out, World.grownBy.refl w _, HU.out⟩⟩
  case round =>
    obtain ⟨k, ns, rfl, rfl, hk2, hI⟩ := hrel
    by_cases hlt : 2 * k + 1 < ms.length
    · have hk' : (k : Int) < (ms.length : Int) - 1 - (k : Int) := by omega
      have hlen := hI.out.1.1
      have hgx := List.getElem?_eq_getElem (l := ns) (i := k) (by omega)
      have hgy := List.getElem?_eq_getElem (l := ns) (i := ms.length - 1 - k) (by omega)
      obtain ⟨x, hx⟩ : ∃ x, x = ns[k]'(by omega) := ⟨_, rfl⟩
      obtain ⟨y, hy⟩ : ∃ y, y = ns[ms.length - 1 - k]'(by omega) := ⟨_, rfl⟩
      rw [← hx] at hgx
      rw [← hy] at hgy
      obtain ⟨J, hJ⟩ : ∃ J : Nat, ms.length - 1 - k = J := ⟨_, rfl⟩
      rw [hJ] at hgy
      obtain ⟨Ax, nx, cx, hx2⟩ := hI.out.2.2.2 x (List.mem_of_getElem? hgx)
      obtain ⟨Ay, ny, cy, hy2⟩ := hI.out.2.2.2 y (List.mem_of_getElem? hgy)
      have hJi : (ms.length : Int) - 1 - (k : Int) = (J : Int) := by omega
      have c0 := vals_at hgx spare
      have d0 := vals_at hgy spare
      rw [← blk_cell hI.out.2.1] at c0 d0
      rw [hx2] at c0
      rw [hy2] at d0
      have HX2 := Lib.hid hx2
      have HY2 := Lib.hid hy2
      have f0 := blk_frozen hI.out.2.1 k
      have g0 := blk_frozen hI.out.2.1 J
      have hkJ : k < J := by omega
      have hJl : (J : Int) < (ms.length : Int) := by omega
      have hkl : (k : Int) < (ms.length : Int) := by omega
      have HGX := Lib.hid hgx
      have HGY := Lib.hid hgy
      have HJ := Lib.hid hJ
      rw [hJi] at hk' ⊢
      have HJI := Lib.hid hJi
      clear hx hy hgx hgy hlen hJ hJi hx2 hy2
      go_wp2_with fail
      go_region
      all_goals
        go_wp2_with fail
        go_roundw
        case rel =>
          refine ⟨k + 1, (ns.set k y).set J x, by go_num, by have := HJI.out; go_num, by omega, Lib.hid ⟨by rw [← HJ.out]; exact rev_step hI.out.1 hlt HGX.out (by rw [HJ.out]; exact HGY.out), ?_, ?_, ?_⟩⟩
          · have hlen := hI.out.1.1
            have h1 := valsM_set (l := ns) (i := k) (e := y) (by omega) spare
            have h2 := valsM_set (l := ns.set k y) (i := J) (e := x) (by rw [List.length_set]; omega) spare
            rw [HY2.out] at h1
            rw [HX2.out, ← h1] at h2
            rw [← h2]
            exact swapM_heap hI.out.2.1 _ _ _ _
          · exact grown_tr hI.out.2.2.1 (swapM_grown wr g _ _ _ _)
          · intro e he
            rcases List.mem_or_eq_of_mem_set he with he | rfl
            · rcases List.mem_or_eq_of_mem_set he with he | rfl
              · exact hI.out.2.2.2 e he
              · exact ⟨_, _, _, HY2.out⟩
            · exact ⟨_, _, _, HX2.out⟩
        case measure => simp [intOf]; omega
    · have hk' : ¬ (k : Int) < (ms.length : Int) - 1 - (k : Int) := by omega
      go_wp2_with fail
      go_end0
      refine ⟨rfl, ?_, hI.out.2.2.1⟩
      rw [← List.map_reverse, ← rev_end hI.out.1 (by omega) hk2]
      exact hI.out.2.1
theorem own_mk {W : World} {base e sz n g cap : Nat} {xs spare : List Value} (hg : base ≤ g) (hh : W.heap[g]? = some (.cells (xs ++ spare).toArray e (0, 0))) (hnc : n ≤ cap) (hcm : cap ≤ maxLen) (hl : (xs ++ spare).length = cap * sz) (hx : xs.length = n * sz) :
    W.ownsRow base e sz (.slice (some ⟨g, 0, none⟩) n cap) n xs :=
  ⟨hx, .inr ⟨g, cap, _, rfl, hg, hh, hnc, hcm, by simpa using hl, by rw [List.toList_toArray, ← hx, List.take_left]⟩⟩
theorem reverse_row (ms : List MV) (v : Value) (B : Nat) (w : World) (h0 : 0 < ms.length) (h : w.ownsRow B 24 1 v ms.length (ms.map (·.2))) (hu : ∀ e ∈ ms, ∃ A n c, e.2 = .slice A n c) :
    Calls Tryz.prog 30 #[v] w fun e W => e = .returned (.tuple #[]) ∧ W.ownsRow B 24 1 v ms.length (ms.reverse.map (·.2)) ∧ w.grownBy W v.ownBlock := by
  rcases own_cur h with ⟨rfl, h1⟩ | ⟨g, cap, spare, rfl, hg, hh, hnc, hcm, hl, hx⟩
  · omega
  · refine (reverse_any ms g cap spare w hh hnc hcm hu).mono ?_
    rintro e W ⟨rfl, h1, h2⟩
    refine ⟨rfl, own_mk hg h1 hnc hcm ?_ ?_, h2⟩
    · simp only [List.length_append, List.length_map, List.length_reverse] at hl ⊢; exact hl
    · simp
end Go.Proofs.YtclpglgigpjfoaaGreatDoor
