/- slices.Concat of two lists of bounds; slices.Grow of nothing. -/
import Derived.Test.YtgecbjjcjemcgaaDlaw
import Derived.Lib.AppendZerosOnto
namespace Go.Proofs.Ytgecbjjcjemcgaa
open Go.RowKit

def zc (n : Nat) : List Value := List.replicate (n * 3) (.int .i64 0)
theorem made_zc (n : Nat) : madeCells (Value.agg #[.int .i64 0, .int .i64 0, .int .i64 0]).cells (n * 3) = (zc n).toArray := by
  apply Array.ext'
  unfold madeCells zc
  apply List.ext_getElem?
  intro i
  simp only [Array.toList_map, Array.toList_range, List.getElem?_map, List.getElem?_replicate]
  by_cases h : i < n * 3
  · rw [List.getElem?_range h, if_pos h]
    have h3 : i % 3 = 0 ∨ i % 3 = 1 ∨ i % 3 = 2 := by omega
    simp only [Option.map_some]
    rcases h3 with h3 | h3 | h3 <;> simp [Value.cells, h3]
  · rw [List.getElem?_eq_none (by simp; omega), if_neg h]; rfl
theorem make_bds (n : Nat) (h : n ≤ 100000) (w : World) : (Instr.makeSlice 22 (.int .i64 (n : Int)) (.int .i64 (n : Int))).run Try.prog w = .ok (.slice (some ⟨w.heap.size, 0, none⟩) n n) (w.alloc (.cells (zc n).toArray 56)) := by
  obtain ⟨i0, hi0, hz0, hz1, hz2⟩ := info_parts info_bd
  have := run_make (P := Try.prog) w 22 56 i0 _ Try.underlying22 hi0 hz0 .i64 .i64 (n : Int) (n : Int) (by omega) (Int.le_refl _) (by rw [hz2]; omega) (by omega)
  rw [this, hz1]
  simp only [Int.toNat_natCast, made_zc]

set_option maxRecDepth 100000 in
set_option maxHeartbeats 1000000 in
theorem growBds_any (n : Nat) (h : n ≤ 1000) (w : World) :
    Calls Try.prog 80 #[.slice none 0 0, .int .i64 (n : Int)] w fun e W => ∃ v', e = .returned v' ∧ W.ownsRow w.heap.size 56 3 v' 0 [] ∧ Below w.heap.size w W := by
  by_cases h0 : n = 0
  · subst h0
    go_enter Try.func80, Try.ntmps80
    go_wp2_with fail
    go_ret
    exact ⟨_, rfl, ⟨rfl, .inl ⟨rfl, rfl⟩⟩, Below.refl _ _⟩
  · have h1 : ¬ (n : Int) < 0 := by omega
    have h2 : 0 < (n : Int) := by omega
    obtain ⟨j0, hj0, hy0, hy1, hy2⟩ := info_parts info_bd
    have hrz : ∀ ty, (Builtin.append_ #[22, 3] ty #[.slice none 0 0, .int .i64 (n : Int)]).run Try.prog w =
        .ok (.slice (some ⟨w.heap.size, 0, none⟩) n (grownCap w n 0 56)) (w.drew.alloc (.cells (#[] ++ Builtin.zeroCells (Value.agg #[.int .i64 0, .int .i64 0, .int .i64 0]).cells n ++ Builtin.zeroCells (Value.agg #[.int .i64 0, .int .i64 0, .int .i64 0]).cells (grownCap w n 0 56 - n)) 56)) := fun ty => by
      have h := Lib.run_append_grow_zeros w 22 3 ty 56 j0 _ .i64 .i64 Try.underlying22 Try.underlying3 hj0 hy0 none 0 0 [] (run_firstCells_none w.drew j0.size 0 0 0) n (by omega) (by omega) (by omega) (by omega) (by rw [hy2]; omega) (by rw [Nat.zero_add]; exact growslice_fits (by omega) (by rw [hy2]; omega))
      rw [Nat.zero_add] at h
      exact h
    have hGn : n ≤ grownCap w n 0 56 := grownCap_ge w _ _ _
    have hGm := grownCap_le_maxLen w n 0 56 (by unfold maxLen; omega)
    obtain ⟨G, hG⟩ : ∃ G, G = grownCap w n 0 56 := ⟨_, rfl⟩
    rw [← hG] at hrz hGn hGm
    have hG63 : G ≤ 9223372036854775807 := by unfold maxLen at hGm; omega
    clear hG
    go_enter Try.func80, Try.ntmps80
    go_wp2_with (at_builtin; refine Lib.wpList_append_run _ rfl _ _ _ _ rfl _ _ rfl rfl _ _ (hrz _) ?_)
    go_ret
    exact ⟨_, rfl, World.ownsRow_made w.drew _ G (Nat.le_refl _) hGm (by simp [size_zeroCells]; omega), bel_al (Below.refl _ _).drew _⟩

set_option maxRecDepth 100000 in
set_option maxHeartbeats 2000000 in
theorem concat2_any (xs ys : List Bd) (A B : Option Addr) (ca cb k : Nat) (w : World) (hx : IsBds w (.slice A xs.length ca) xs) (hy : IsBds w (.slice B ys.length cb) ys) (hsm : xs.length + ys.length ≤ 1000)
    (h0 : w.cell? ⟨k, 0, none⟩ = some (.slice A xs.length ca)) (h1 : w.cell? ⟨k, 1, none⟩ = some (.slice B ys.length cb)) :
    Calls Try.prog 68 #[.slice (some ⟨k, 0, none⟩) 2 2] w fun e W => ∃ v', e = .returned v' ∧ IsBds W v' (xs ++ ys) ∧ Below w.heap.size w W := by
  obtain ⟨cx, hmx, hsx, -⟩ := means_of_sl bdAt_movable hx
  obtain ⟨cy, hmy, hsy, -⟩ := means_of_sl bdAt_movable hy
  have HMX := Lib.hid hmx
  have HMY := Lib.hid hmy
  have HSX := Lib.hid hsx
  have HSY := Lib.hid hsy
  obtain ⟨j0, hj0, hy0, hy1, hy2⟩ := info_parts info_bd
  clear hmx hmy hsx hsy hx hy
  have hw1 : IntKind.i64.wrap ((xs.length : Int) + (ys.length : Int)) = (xs.length : Int) + (ys.length : Int) := IntWalk.i64_in _ (by omega)
  have hn1 : ¬ ((xs.length : Int) < 0) := by omega
  have hn2 : ¬ ((xs.length : Int) + (ys.length : Int) < 0) := by omega
  go_enter Try.func68, Try.ntmps68
  go_wp2_with fail
  go_loopw [3, 11] (fun s i wr => ∃ k : Nat, k ≤ 2 ∧ i = .int .i64 k ∧ s = .int .i64 (((([xs.length, ys.length] : List Nat).take k).sum : Nat) : Int) ∧ wr = w) (fun _ i _ => 2 - (intOf i).toNat)
  case atStart => exact ⟨0, Nat.zero_le _, rfl, rfl, rfl⟩
  case round =>
    obtain ⟨i, hi, rfl, rfl, rfl⟩ := hrel
    have hk3 : i = 0 ∨ i = 1 ∨ i = 2 := by omega
    clear hi
    rcases hk3 with rfl | rfl | rfl
    · go_wp2_with fail
      go_roundw
      case rel => exact ⟨1, by omega, by go_num, by simp, trivial⟩
      case measure => simp [intOf]
    · go_wp2_with fail
      go_roundw
      case rel => exact ⟨2, by omega, by go_num, by simp, trivial⟩
      case measure => simp [intOf]
    · have hsz : ((([xs.length, ys.length] : List Nat).take 2).sum) = xs.length + ys.length := by simp
      rw [hsz]
      obtain ⟨w0, hw0⟩ : ∃ W, W = wr := ⟨_, rfl⟩
      subst hw0
      go_wp2_with fail
      have hgr := growBds_any (xs.length + ys.length) (by omega) w0
      rw [Int.natCast_add] at hgr
      refine hgr.mono ?_
      clear hgr
      rintro e w2 ⟨v2, rfl, hown2, hb2⟩
      have HO2 := Lib.hid hown2
      have HB2 := Lib.hid hb2
      obtain ⟨A2, c2, rfl⟩ := slice_own hown2
      clear hown2 hb2 hsz
      go_wp2_with fail
      go_loopw [6, 27] (fun v i wr => ∃ k : Nat, k ≤ 2 ∧ i = .int .i64 k ∧ Hid (wr.ownsRow w0.heap.size 56 3 v ((([xs.length, ys.length] : List Nat).take k).sum) ((([cx, cy] : List (List Value)).take k).flatten) ∧ Below w0.heap.size w0 wr)) (fun _ i _ => 2 - (intOf i).toNat)
      case atStart => exact ⟨0, Nat.zero_le _, rfl, Lib.hid ⟨HO2.out, HB2.out⟩⟩
      case round =>
        obtain ⟨i, hi, rfl, HI⟩ := hrel
        have hk3 : i = 0 ∨ i = 1 ∨ i = 2 := by omega
        clear hi
        rcases hk3 with rfl | rfl | rfl
        · have hown := HI.out.1
          simp only [List.take_zero, List.sum_nil, List.flatten_nil] at hown
          have HO3 := Lib.hid hown
          have HB3 := Lib.hid HI.out.2
          obtain ⟨A3, c3, rfl⟩ := slice_own hown
          have q0 := cell_stays HB3.out h0
          clear hown HI
          go_wp2_with (at_builtin; refine wpList_app _ rfl (.tmp 31) (.tmp 32) 22 rfl w0.heap.size 56 j0 _ 3 24 Try.underlying22 hj0 hy0 hy1 hy2 rfl (by decide) (.slice A3 0 c3) 0 [] rfl HO3.out A xs.length ca cx rfl (HSX.out.stays HB3.out) (by unfold maxLen; omega) (by omega) HB3.out.size ?_; intro v6 w6 hown6 hg6 hloc6; have HO6 := Lib.hid hown6; have HB6 : Hid (Below w0.heap.size w0 w6) := Lib.hid (HB3.out.trans (grown_below hg6 HB3.out.size (fun g h => (ownsRow_lt HO3.out h).1))); clear hown6 hg6 hloc6)
          go_roundw
          case rel => exact ⟨1, by omega, by go_num, Lib.hid ⟨by simpa using HO6.out, HB6.out⟩⟩
          case measure => simp [intOf]
        · have hown := HI.out.1
          simp only [List.take_succ_cons, List.take_zero, List.sum_cons, List.sum_nil, Nat.add_zero, List.flatten_cons, List.flatten_nil, List.append_nil] at hown
          have HO3 := Lib.hid hown
          have HB3 := Lib.hid HI.out.2
          obtain ⟨A3, c3, rfl⟩ := slice_own hown
          have q1 := cell_stays HB3.out h1
          clear hown HI
          go_wp2_with (at_builtin; refine wpList_app _ rfl (.tmp 31) (.tmp 32) 22 rfl w0.heap.size 56 j0 _ 3 24 Try.underlying22 hj0 hy0 hy1 hy2 rfl (by decide) (.slice A3 xs.length c3) xs.length cx rfl HO3.out B ys.length cb cy rfl (HSY.out.stays HB3.out) (by unfold maxLen; omega) (by omega) HB3.out.size ?_; intro v6 w6 hown6 hg6 hloc6; have HO6 := Lib.hid hown6; have HB6 : Hid (Below w0.heap.size w0 w6) := Lib.hid (HB3.out.trans (grown_below hg6 HB3.out.size (fun g h => (ownsRow_lt HO3.out h).1))); clear hown6 hg6 hloc6)
          go_roundw
          case rel => exact ⟨2, by omega, by go_num, Lib.hid ⟨by simpa using HO6.out, HB6.out⟩⟩
          case measure => simp [intOf]
        · have hown := HI.out.1
          simp only [List.take_succ_cons, List.take_zero, List.sum_cons, List.sum_nil, Nat.add_zero, List.flatten_cons, List.flatten_nil, List.append_nil] at hown
          have HO3 := Lib.hid hown
          have HB3 := Lib.hid HI.out.2
          obtain ⟨A3, c3, rfl⟩ := slice_own hown
          clear hown HI
          go_wp2_with fail
          go_ret
          exact ⟨_, rfl, sl_of_means (HMX.out.app HMY.out) HB3.out (by rw [List.length_append]; exact HO3.out), HB3.out⟩
end Go.Proofs.Ytgecbjjcjemcgaa
