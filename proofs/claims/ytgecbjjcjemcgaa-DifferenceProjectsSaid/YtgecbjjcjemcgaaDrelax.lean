/- All bounds relaxed once, as the program does it. -/
import Derived.Test.YtgecbjjcjemcgaaDrow
import Derived.Deep.RegionHeld3
namespace Go.Proofs.Ytgecbjjcjemcgaa
open Go.RowKit

/-- the sums and the last bounds, where they lie: the block bd holds two slices, of the blocks g1 and g2; all three lie beyond what was there in w0 -/
structure Dist (w0 W : World) (bd g1 g2 c1 c2 : Nat) (d l : List Int) : Prop where
  s0 : W.cell? ⟨bd, 0, none⟩ = some (.slice (some ⟨g1, 0, none⟩) d.length c1)
  s1 : W.cell? ⟨bd, 1, none⟩ = some (.slice (some ⟨g2, 0, none⟩) l.length c2)
  r1 : Row W g1 d
  r2 : Row W g2 l
  n12 : g1 ≠ g2
  n1 : g1 ≠ bd
  n2 : g2 ≠ bd
  o1 : w0.heap.size ≤ g1
  o2 : w0.heap.size ≤ g2
  bel : Below w0.heap.size w0 W
  m1 : d.length ≤ c1 ∧ c1 ≤ maxLen
  m2 : l.length ≤ c2 ∧ c2 ≤ maxLen

theorem Dist.grow {w0 W W' : World} {bd g1 g2 c1 c2 : Nat} {d l : List Int} (h : Dist w0 W bd g1 g2 c1 c2 d l) (hb : Below W.heap.size W W') : Dist w0 W' bd g1 g2 c1 c2 d l :=
  ⟨cell_stays hb h.s0, cell_stays hb h.s1, h.r1.stays hb, h.r2.stays hb, h.n12, h.n1, h.n2, h.o1, h.o2, bel_tr h.bel hb, h.m1, h.m2⟩
theorem Dist.put {w0 W : World} {bd g1 g2 c1 c2 : Nat} {d l : List Int} (h : Dist w0 W bd g1 g2 c1 c2 d l) (x : Nat) (s : Int) (i : Int) : Dist w0 ((W.setCell ⟨g1, x, none⟩ (.int .i64 s)).setCell ⟨g2, x, none⟩ (.int .i64 i)) bd g1 g2 c1 c2 (d.set x s) (l.set x i) := by
  refine ⟨?_, ?_, (h.r1.set x s).far (Ne.symm h.n12) _, (h.r2.far h.n12 _).set x i, h.n12, h.n1, h.n2, h.o1, h.o2, bel_set (bel_set h.bel h.o1 _) h.o2 _, by rw [List.length_set]; exact h.m1, by rw [List.length_set]; exact h.m2⟩
  · rw [cell_far h.n2, cell_far h.n1, List.length_set]; exact h.s0
  · rw [cell_far h.n2, cell_far h.n1, List.length_set]; exact h.s1
theorem Dist.swap {w0 W : World} {bd g1 g2 c1 c2 : Nat} {d l : List Int} (h : Dist w0 W bd g1 g2 c1 c2 d l) (x : Nat) (s : Int) (i : Int) : Dist w0 ((W.setCell ⟨g2, x, none⟩ (.int .i64 i)).setCell ⟨g1, x, none⟩ (.int .i64 s)) bd g1 g2 c1 c2 (d.set x s) (l.set x i) := by
  refine ⟨?_, ?_, (h.r1.far (Ne.symm h.n12) _).set x s, (h.r2.set x i).far h.n12 _, h.n12, h.n1, h.n2, h.o1, h.o2, bel_set (bel_set h.bel h.o2 _) h.o1 _, by rw [List.length_set]; exact h.m1, by rw [List.length_set]; exact h.m2⟩
  · rw [cell_far h.n1, cell_far h.n2, List.length_set]; exact h.s0
  · rw [cell_far h.n1, cell_far h.n2, List.length_set]; exact h.s1

theorem cells3_stay {w W : World} {p1 p2 p3 : Nat × Nat} {v1 v2 v3 : Value} (hb : Below w.heap.size w W) (h : w.cell? ⟨p1.1, p1.2, none⟩ = some v1 ∧ w.cell? ⟨p2.1, p2.2, none⟩ = some v2 ∧ w.cell? ⟨p3.1, p3.2, none⟩ = some v3) :
    W.cell? ⟨p1.1, p1.2, none⟩ = some v1 ∧ W.cell? ⟨p2.1, p2.2, none⟩ = some v2 ∧ W.cell? ⟨p3.1, p3.2, none⟩ = some v3 := ⟨cell_stays hb h.1, cell_stays hb h.2.1, cell_stays hb h.2.2⟩

theorem cells3_far {w : World} {p1 p2 p3 : Nat × Nat} {v1 v2 v3 : Value} {g i : Nat} {u : Value} (n1 : g ≠ p1.1) (n2 : g ≠ p2.1) (n3 : g ≠ p3.1) (h : w.cell? ⟨p1.1, p1.2, none⟩ = some v1 ∧ w.cell? ⟨p2.1, p2.2, none⟩ = some v2 ∧ w.cell? ⟨p3.1, p3.2, none⟩ = some v3) :
    (w.setCell ⟨g, i, none⟩ u).cell? ⟨p1.1, p1.2, none⟩ = some v1 ∧ (w.setCell ⟨g, i, none⟩ u).cell? ⟨p2.1, p2.2, none⟩ = some v2 ∧ (w.setCell ⟨g, i, none⟩ u).cell? ⟨p3.1, p3.2, none⟩ = some v3 :=
  ⟨(cell_far n1 u).trans h.1, (cell_far n2 u).trans h.2.1, (cell_far n3 u).trans h.2.2⟩
theorem cells3_drew {w : World} {p1 p2 p3 : Nat × Nat} {v1 v2 v3 : Value} (h : w.cell? ⟨p1.1, p1.2, none⟩ = some v1 ∧ w.cell? ⟨p2.1, p2.2, none⟩ = some v2 ∧ w.cell? ⟨p3.1, p3.2, none⟩ = some v3) :
    w.drew.cell? ⟨p1.1, p1.2, none⟩ = some v1 ∧ w.drew.cell? ⟨p2.1, p2.2, none⟩ = some v2 ∧ w.drew.cell? ⟨p3.1, p3.2, none⟩ = some v3 := h

/-- what relax leaves: the sums and last bounds of one round, and all other blocks as they were -/
def RelaxRet (w0 W : World) (bd g1 g2 c1 c2 : Nat) (s : Rx) (e : Ending) (W' : World) : Prop :=
  e = .returned (.int .i64 s.out) ∧ Dist w0 W' bd g1 g2 c1 c2 s.d s.l ∧ W.heap.size ≤ W'.heap.size ∧ ∀ b, b < W.heap.size → b ≠ g1 → b ≠ g2 → W'.heap[b]? = W.heap[b]?

theorem rstep_yes {s : Rx} {i : Nat} {b : Ed} (h : gd s.d b.y + b.m < gd s.d b.x) : rstep s i b = ⟨s.d.set b.x (gd s.d b.y + b.m), s.l.set b.x i, b.x⟩ := by unfold rstep; rw [if_pos h]
theorem rstep_no {s : Rx} {i : Nat} {b : Ed} (h : ¬ gd s.d b.y + b.m < gd s.d b.x) : rstep s i b = s := by unfold rstep; rw [if_neg h]

set_option maxRecDepth 100000 in
set_option maxHeartbeats 2000000 in
theorem relax_any (n K : Nat) (bs : List Bd) (v : Value) (w0 w : World) (bd g1 g2 c1 c2 : Nat) (s : Rx) (hl : IsBds w0 v bs) (hg : good n bs) (hD : Dist w0 w bd g1 g2 c1 c2 s.d s.l) (hd : s.d.length = n) (hll : s.l.length = n) (hlow : low K s.d) (hK : K + bs.length ≤ 4000) :
    Calls Try.prog 70 #[.pointer (some ⟨bd, 0, none⟩), zoneV n v] w (RelaxRet w0 w bd g1 g2 c1 c2 (rround (bs.map ed) s)) := by
  unfold zoneV
  obtain ⟨A, c, rfl, h1, h2, hat⟩ := hl
  have hn := len_i64 h1 h2
  have HA := Lib.hid hat
  have HG := Lib.hid hg
  have HD := Lib.hid hD
  have HLOW := Lib.hid (relaxK_low (s := ⟨s.d, s.l, -1⟩) hg hd hlow)
  clear hat h1 h2 hg hD hlow
  go_enter Try.func70, Try.ntmps70
  go_wp2
  go_loopw [5, 12] (fun o i wr => ∃ k : Nat, k ≤ bs.length ∧ i = .int .i64 k ∧ o = .int .i64 (relaxK (bs.map ed) ⟨s.d, s.l, -1⟩ k).out ∧ Hid (Dist w0 wr bd g1 g2 c1 c2 (relaxK (bs.map ed) ⟨s.d, s.l, -1⟩ k).d (relaxK (bs.map ed) ⟨s.d, s.l, -1⟩ k).l) ∧ Hid (w.heap.size ≤ wr.heap.size ∧ ∀ b, b < w.heap.size → b ≠ g1 → b ≠ g2 → wr.heap[b]? = w.heap[b]?)) (fun _ i _ => bs.length - (intOf i).toNat)
  case atStart => exact ⟨0, Nat.zero_le _, rfl, rfl, HD.out.grow (bel_one _ _), Lib.hid ⟨by simp, fun b hb _ _ => (bel_one w _).block b hb⟩⟩
  case round =>
    obtain ⟨k, hk, rfl, rfl, HI, HK⟩ := hrel
    by_cases hlt : k < bs.length
    · have hget := List.getElem?_eq_getElem hlt
      obtain ⟨bk, hbk⟩ : ∃ b, b = bs[k] := ⟨_, rfl⟩
      rw [← hbk] at hget
      have HE : Hid ((bs.map ed)[k]? = some (ed bk)) := Lib.hid (by rw [List.getElem?_map, hget]; rfl)
      obtain ⟨gx0, gx1, gy0, gy1, gm0, gm1⟩ := HG.out bk (by rw [hbk]; exact List.getElem_mem hlt)
      obtain ⟨b, o, rfl, p0, p1, p2⟩ := HA.out k bk hget
      clear hget hbk
      replace p0 := cell_stays HI.out.bel p0
      replace p1 := cell_stays HI.out.bel p1
      replace p2 := cell_stays HI.out.bel p2
      obtain ⟨x, y, m⟩ := bk
      simp only [ed] at HE
      simp only at gx0 gx1 gy0 gy1 gm0 gm1 p0 p1 p2
      obtain ⟨X, rfl⟩ := Int.eq_ofNat_of_zero_le gx0
      obtain ⟨Y, rfl⟩ := Int.eq_ofNat_of_zero_le gy0
      simp only [Int.toNat_natCast] at HE
      have hlk := HLOW.out k
      have hlen := relaxK_len (bs.map ed) ⟨s.d, s.l, -1⟩ k
      obtain ⟨S, hS⟩ : ∃ S, S = relaxK (bs.map ed) ⟨s.d, s.l, -1⟩ k := ⟨_, rfl⟩
      have HS : Hid (relaxK (bs.map ed) ⟨s.d, s.l, -1⟩ (k + 1) = rstep S k ⟨X, Y, m⟩) := Lib.hid (by rw [relaxK_succ HE.out, hS])
      rw [← hS] at HI hlk hlen ⊢
      clear hS
      simp only at hlen
      have q0 := HI.out.s0
      have q1 := HI.out.s1
      have hXd : X < S.d.length := by omega
      have hYd : Y < S.d.length := by omega
      have hXl : X < S.l.length := by omega
      have rx := HI.out.r1.cell hXd
      have ry := HI.out.r1.cell hYd
      have rl := HI.out.r2.cell hXl
      have f1 := HI.out.r1.frozen X
      have f2 := HI.out.r2.frozen X
      have hly := hlk Y
      have hlx := hlk X
      obtain ⟨dx, hdx⟩ : ∃ a, a = gd S.d X := ⟨_, rfl⟩
      obtain ⟨dy, hdy⟩ : ∃ a, a = gd S.d Y := ⟨_, rfl⟩
      have HDX := Lib.hid hdx
      have HDY := Lib.hid hdy
      rw [← hdx] at rx hlx
      rw [← hdy] at ry hly
      clear hlk hdx hdy
      have hw : IntKind.i64.wrap (dy + m) = dy + m := IntWalk.i64_in _ (by omega)
      have hbl := World.block_lt_of_cell? wr _ p0
      have hbd := World.block_lt_of_cell? wr _ q0
      have hg1 := HI.out.r1.lt
      have hg2 := HI.out.r2.lt
      simp only at hbl hbd
      have hk' : (k : Int) < (bs.length : Int) := by omega
      have hXi : (X : Int) < (S.d.length : Int) := by omega
      have hYi : (Y : Int) < (S.d.length : Int) := by omega
      have hXj : (X : Int) < (S.l.length : Int) := by omega
      go_wp2_with fail
      refine wp_gen ?_
      intro W1 hW1
      have hb1 : Below wr.heap.size wr W1 := by rw [hW1]; exact bel_one _ _
      have y0 : W1.cell? ⟨wr.heap.size, 0, none⟩ = some (.int .i64 X) := by rw [hW1]; exact (new_cells (Below.refl _ _)).1 0
      have y1 : W1.cell? ⟨wr.heap.size, 1, none⟩ = some (.int .i64 Y) := by rw [hW1]; exact (new_cells (Below.refl _ _)).1 1
      have y2 : W1.cell? ⟨wr.heap.size, 2, none⟩ = some (.int .i64 m) := by rw [hW1]; exact (new_cells (Below.refl _ _)).1 2
      clear hW1
      replace q0 := cell_stays hb1 q0
      replace q1 := cell_stays hb1 q1
      replace rx := cell_stays hb1 rx
      replace ry := cell_stays hb1 ry
      clear p0 p1 p2
      go_region_held3 (fun W => W.cell? ⟨bd, 0, none⟩ = some (.slice (some ⟨g1, 0, none⟩) S.d.length c1) ∧ W.cell? ⟨wr.heap.size, 1, none⟩ = some (.int .i64 Y) ∧ W.cell? ⟨wr.heap.size, 2, none⟩ = some (.int .i64 m) ∧ W.cell? ⟨g1, Y, none⟩ = some (.int .i64 dy)) (exact ⟨q0, y1, y2, ry⟩) (fail)
      have hb2 : Below wr.heap.size wr W1.drew := hb1.drew
      replace q0 : W1.drew.cell? ⟨bd, 0, none⟩ = some (.slice (some ⟨g1, 0, none⟩) S.d.length c1) := q0
      replace q1 : W1.drew.cell? ⟨bd, 1, none⟩ = some (.slice (some ⟨g2, 0, none⟩) S.l.length c2) := q1
      replace rx : W1.drew.cell? ⟨g1, X, none⟩ = some (.int .i64 dx) := rx
      replace y0 : W1.drew.cell? ⟨wr.heap.size, 0, none⟩ = some (.int .i64 X) := y0
      clear ry y1 y2 hb1
      go_wp2_with fail
      refine wp_gen ?_
      intro W2 hW2
      replace hb2 : Below wr.heap.size wr W2 := by rw [hW2]; exact hb2
      replace q0 : W2.cell? ⟨bd, 0, none⟩ = some (.slice (some ⟨g1, 0, none⟩) S.d.length c1) := by rw [hW2]; exact q0
      replace q1 : W2.cell? ⟨bd, 1, none⟩ = some (.slice (some ⟨g2, 0, none⟩) S.l.length c2) := by rw [hW2]; exact q1
      replace rx : W2.cell? ⟨g1, X, none⟩ = some (.int .i64 dx) := by rw [hW2]; exact rx
      replace y0 : W2.cell? ⟨wr.heap.size, 0, none⟩ = some (.int .i64 X) := by rw [hW2]; exact y0
      clear hW2
      go_region_held3 (fun W => W.cell? ⟨bd, 0, none⟩ = some (.slice (some ⟨g1, 0, none⟩) S.d.length c1) ∧ W.cell? ⟨wr.heap.size, 0, none⟩ = some (.int .i64 X) ∧ W.cell? ⟨g1, X, none⟩ = some (.int .i64 dx)) (exact ⟨q0, y0, rx⟩) (fail)
      have hb3 : Below wr.heap.size wr W2.drew := hb2.drew
      by_cases hc : dy + m < dx
      · have HY := Lib.hid (rstep_yes (i := k) (s := S) (b := ⟨X, Y, m⟩) (by simp only; rw [← HDX.out, ← HDY.out]; exact hc))
        go_wp2_with fail
        refine wp_gen ?_
        intro W3 hW3
        replace hb3 : Below wr.heap.size wr W3 := by rw [hW3]; exact hb2.drew
        replace q0 : W3.cell? ⟨bd, 0, none⟩ = some (.slice (some ⟨g1, 0, none⟩) S.d.length c1) := by rw [hW3]; exact q0
        replace q1 : W3.cell? ⟨bd, 1, none⟩ = some (.slice (some ⟨g2, 0, none⟩) S.l.length c2) := by rw [hW3]; exact q1
        replace rx : W3.cell? ⟨g1, X, none⟩ = some (.int .i64 dx) := by rw [hW3]; exact rx
        replace y0 : W3.cell? ⟨wr.heap.size, 0, none⟩ = some (.int .i64 X) := by rw [hW3]; exact y0
        clear hW3
        have f1 := (HI.out.grow hb3).r1.frozen X
        have f2 := (HI.out.grow hb3).r2.frozen X
        have rl' := cell_stays hb3 rl
        have hne1 := HI.out.n1
        have hne2 := HI.out.n2
        have hne3 : g1 ≠ wr.heap.size := by omega
        have hne4 : g2 ≠ wr.heap.size := by omega
        have hne5 := HI.out.n12
        go_region_held3 (fun W => W.cell? ⟨bd, 0, none⟩ = some (.slice (some ⟨g1, 0, none⟩) S.d.length c1) ∧ W.cell? ⟨bd, 1, none⟩ = some (.slice (some ⟨g2, 0, none⟩) S.l.length c2) ∧ W.cell? ⟨wr.heap.size, 0, none⟩ = some (.int .i64 X)) (first
          | with_reducible exact cells3_drew (p1 := (bd, 0)) (p2 := (bd, 1)) (p3 := (wr.heap.size, 0)) ⟨q0, q1, y0⟩
          | with_reducible exact cells3_drew (p1 := (bd, 0)) (p2 := (bd, 1)) (p3 := (wr.heap.size, 0)) (cells3_far (p1 := (bd, 0)) (p2 := (bd, 1)) (p3 := (wr.heap.size, 0)) hne1 hne1 hne3 ⟨q0, q1, y0⟩)
          | with_reducible exact cells3_drew (p1 := (bd, 0)) (p2 := (bd, 1)) (p3 := (wr.heap.size, 0)) (cells3_far (p1 := (bd, 0)) (p2 := (bd, 1)) (p3 := (wr.heap.size, 0)) hne2 hne2 hne4 (cells3_far (p1 := (bd, 0)) (p2 := (bd, 1)) (p3 := (wr.heap.size, 0)) hne1 hne1 hne3 ⟨q0, q1, y0⟩))) (fail)
        have HD4 := Lib.hid ((HI.out.grow hb3).put X (dy + m) k)
        have hbx : wr.heap.size < W3.heap.size := by have := World.block_lt_of_cell? W3 _ y0; simpa using this
        have y4 : ((W3.setCell ⟨g1, X, none⟩ (.int .i64 (dy + m))).setCell ⟨g2, X, none⟩ (.int .i64 (k : Int))).drew.cell? ⟨wr.heap.size, 0, none⟩ = some (.int .i64 (X : Int)) := by
          have h : ((W3.setCell ⟨g1, X, none⟩ (.int .i64 (dy + m))).setCell ⟨g2, X, none⟩ (.int .i64 (k : Int))).cell? ⟨wr.heap.size, 0, none⟩ = some (.int .i64 (X : Int)) := by rw [cell_far hne4, cell_far hne3]; exact y0
          exact h
        clear q0 q1 rx y0 f1 f2 rl'
        go_wp2_with fail
        go_roundw
        case rel =>
          refine ⟨k + 1, by omega, by go_num, by rw [HS.out, HY.out], ?_, Lib.hid ⟨?_, ?_⟩⟩
          · rw [HS.out, HY.out]
            simp only
            rw [← HDY.out]
            exact Lib.hid (HD4.out.grow (Below.refl _ _).drew)
          · simp only [World.size_drew, World.size_setCell]; have := hb3.size; have := HK.out.1; omega
          · intro b' h1 h2 h3
            have h4 : ((W3.setCell ⟨g1, X, none⟩ (.int .i64 (dy + m))).setCell ⟨g2, X, none⟩ (.int .i64 (k : Int))).heap[b']? = W3.heap[b']? := by rw [Below.heap_setCell _ _ _ _ h3, Below.heap_setCell _ _ _ _ h2]
            exact h4.trans ((hb3.block b' (by have := HK.out.1; omega)).trans (HK.out.2 b' h1 h2 h3))
        case measure => simp [intOf]; omega
      · have HN := Lib.hid (rstep_no (i := k) (s := S) (b := ⟨X, Y, m⟩) (by simp only; rw [← HDX.out, ← HDY.out]; exact hc))
        go_wp2_with fail
        go_roundw
        case rel => exact ⟨k + 1, by omega, by go_num, by rw [HS.out, HN.out], by rw [HS.out, HN.out]; exact HI.out.grow hb3, Lib.hid ⟨by have := hb3.size; have := HK.out.1; omega, fun b h1 h2 h3 => (hb3.block b (by have := HK.out.1; omega)).trans (HK.out.2 b h1 h2 h3)⟩⟩
        case measure => simp [intOf]; omega
    · obtain rfl : k = bs.length := by omega
      go_wp2
      go_ret
      have e : rround (bs.map ed) s = relaxK (bs.map ed) ⟨s.d, s.l, -1⟩ bs.length := by unfold rround; rw [List.length_map]
      rw [e]
      exact ⟨rfl, HI.out, HK.out.1, HK.out.2⟩
end Go.Proofs.Ytgecbjjcjemcgaa
