/- Rows of integers that a call writes; how large the sums get. -/
import Derived.Test.YtgecbjjcjemcgaaDchk
import Derived.Test.YtgecbjjcjemcgaaDfw
namespace Go.Proofs.Ytgecbjjcjemcgaa
open Go.RowKit

def ints (d : List Int) : List Value := d.map (Value.int .i64)
/-- block g holds the integers d -/
def Row (W : World) (g : Nat) (d : List Int) : Prop := W.heap[g]? = some (.cells (ints d).toArray 3 (0, 0))

theorem ints_get (d : List Int) (i : Nat) (h : i < d.length) : (ints d)[i]? = some (.int .i64 (gd d i)) := by
  unfold ints; rw [List.getElem?_map, gd_at h]; rfl
theorem ints_set (d : List Int) (i : Nat) (v : Int) : (ints d).set i (.int .i64 v) = ints (d.set i v) := by
  unfold ints; rw [List.map_set]
section
variable {W W' : World} {g : Nat} {d : List Int}
theorem Row.cell (h : Row W g d) {i : Nat} (hi : i < d.length) : W.cell? ⟨g, i, none⟩ = some (.int .i64 (gd d i)) := by rw [blk_cell h]; exact ints_get d i hi
theorem Row.frozen (h : Row W g d) (i : Nat) : W.frozen? ⟨g, i, none⟩ = false := blk_frozen h i
theorem Row.lt (h : Row W g d) : g < W.heap.size := blk_lt h
theorem Row.set (h : Row W g d) (i : Nat) (v : Int) : Row (W.setCell ⟨g, i, none⟩ (.int .i64 v)) g (d.set i v) := by
  unfold Row; rw [blk_set h, ints_set]
theorem Row.kept (h : Row W g d) (hk : W'.heap[g]? = W.heap[g]?) : Row W' g d := hk.trans h
theorem Row.stays (h : Row W g d) (hb : Below W.heap.size W W') : Row W' g d := h.kept (hb.block g h.lt)
theorem Row.far (h : Row W g d) {b i : Nat} (hn : b ≠ g) (v : Value) : Row (W.setCell ⟨b, i, none⟩ v) g d := h.kept (Below.heap_setCell W ⟨b, i, none⟩ v g (Ne.symm hn))
theorem Row.ints (h : Row W g d) {c : Nat} (h1 : d.length ≤ c) (h2 : c ≤ maxLen) : IsInts W (.slice (some ⟨g, 0, none⟩) d.length c) d := by
  refine ⟨_, _, rfl, h1, h2, fun k x hk => ⟨g, 0, rfl, ?_⟩⟩
  have hkl := (List.getElem?_eq_some_iff.1 hk).1
  have := h.cell hkl
  rw [gd_get hk] at this
  simpa [IntAt] using this
end
theorem cell_far {W : World} {b i c j : Nat} (h : b ≠ c) (v : Value) : (W.setCell ⟨b, i, none⟩ v).cell? ⟨c, j, none⟩ = W.cell? ⟨c, j, none⟩ := World.cell?_of_block (Below.heap_setCell W ⟨b, i, none⟩ v c (Ne.symm h))

/-- what a call leaves as it was: all blocks that were there, but two -/
structure Kept (g1 g2 : Nat) (W W' : World) : Prop where
  os : W'.os = W.os
  tape : W'.tape = W.tape
  output : W'.output = W.output
  size : W.heap.size ≤ W'.heap.size
  block : ∀ b, b < W.heap.size → b ≠ g1 → b ≠ g2 → W'.heap[b]? = W.heap[b]?

def ed (b : Bd) : Ed := ⟨b.x.toNat, b.y.toNat, b.most⟩
/-- bounds between n unknowns, none too large -/
def good (n : Nat) (bs : List Bd) : Prop := ∀ b ∈ bs, 0 ≤ b.x ∧ b.x < n ∧ 0 ≤ b.y ∧ b.y < n ∧ -1125899906842624 ≤ b.most ∧ b.most ≤ 1125899906842624
theorem good_ok {n : Nat} {bs : List Bd} (h : good n bs) : okE n (bs.map ed) := by
  intro e he
  obtain ⟨b, hb, rfl⟩ := List.mem_map.1 he
  have := h b hb
  simp only [ed]
  omega
theorem good_of {n : Int} {bs : List Bd} (h : zoneErr n bs = 0) : 1 ≤ n ∧ n ≤ 64 ∧ bs.length ≤ 256 ∧ good n.toNat bs := by
  unfold zoneErr at h
  by_cases h1 : nBad n = true
  · rw [if_pos h1] at h; omega
  · rw [if_neg h1] at h
    simp only [nBad, Bool.or_eq_true, decide_eq_true_eq, not_or] at h1
    by_cases h2 : 256 < (bs.length : Int)
    · rw [if_pos h2] at h; omega
    · rw [if_neg h2] at h
      refine ⟨by omega, by omega, by omega, ?_⟩
      have key : ∀ l : List Bd, bdsErr n l = 0 → good n.toNat l := by
        intro l
        induction l with
        | nil => intro _ b hb; simp at hb
        | cons b l ih =>
          intro hl
          unfold bdsErr at hl
          by_cases h3 : boundErr n b = 0
          · rw [if_pos h3] at hl
            intro c hc
            rcases List.mem_cons.1 hc with h4 | h4
            · subst h4
              unfold boundErr at h3
              by_cases h5 : boundBad n c = true
              · rw [if_pos h5] at h3; omega
              · simp only [boundBad, Bool.or_eq_true, decide_eq_true_eq, not_or] at h5
                omega
            · exact ih hl c h4
          · rw [if_neg h3] at hl; exact absurd hl h3
      exact key bs h

/-- sums that K relaxings may have lowered -/
def low (K : Nat) (d : List Int) : Prop := ∀ v, -((K : Int) * 1125899906842624) ≤ gd d v ∧ gd d v ≤ 0
theorem low_set {K : Nat} {d : List Int} (h : low K d) {x : Nat} {v : Int} (hx : x < d.length) (h1 : -(((K + 1 : Nat) : Int) * 1125899906842624) ≤ v) (h2 : v ≤ 0) : low (K + 1) (d.set x v) := by
  intro u
  rw [gd_set d x u v hx]
  by_cases hu : x = u
  · rw [if_pos hu]; exact ⟨h1, h2⟩
  · rw [if_neg hu]; have := h u; omega
theorem low_more {K L : Nat} {d : List Int} (h : low K d) (hl : K ≤ L) : low L d := fun u => by have := h u; omega
theorem rstep_len (s : Rx) (i : Nat) (b : Ed) : (rstep s i b).d.length = s.d.length ∧ (rstep s i b).l.length = s.l.length := by
  unfold rstep; split <;> simp
theorem relaxK_len (bs : List Ed) (s : Rx) : ∀ k, (relaxK bs s k).d.length = s.d.length ∧ (relaxK bs s k).l.length = s.l.length := by
  intro k
  induction k with
  | zero => exact ⟨rfl, rfl⟩
  | succ k ih =>
    cases hb : bs[k]? with
    | none => simp only [relaxK, hb]; exact ih
    | some b => rw [relaxK_succ hb]; have := rstep_len (relaxK bs s k) k b; omega
theorem relaxK_low {n : Nat} {bs : List Bd} (hg : good n bs) {s : Rx} {K : Nat} (hl : s.d.length = n) (h : low K s.d) : ∀ k, low (K + k) (relaxK (bs.map ed) s k).d := by
  intro k
  induction k with
  | zero => exact h
  | succ k ih =>
    cases hb : (bs.map ed)[k]? with
    | none => simp only [relaxK, hb]; exact low_more ih (by omega)
    | some b =>
      rw [relaxK_succ hb]
      obtain ⟨c, hc, rfl⟩ := List.mem_map.1 (List.mem_of_getElem? hb)
      have hgc := hg c hc
      unfold rstep
      split
      · rename_i h1
        have h2 := ih (ed c).y
        have h3 := ih (ed c).x
        refine low_set ih ?_ ?_ ?_
        · rw [(relaxK_len _ _ k).1, hl]; simp only [ed]; omega
        · have : (ed c).m = c.most := rfl
          rw [this]; omega
        · omega
      · exact low_more ih (by omega)
theorem runs_len {n : Nat} {bs : List Ed} : ∀ r, (runs n bs r).d.length = n ∧ (runs n bs r).l.length = n := by
  intro r
  induction r with
  | zero => simp [runs, rinit]
  | succ r ih =>
    have := relaxK_len bs ⟨(runs n bs r).d, (runs n bs r).l, -1⟩ bs.length
    simp only [runs, rround]
    simp only at this
    omega
theorem runs_low {n : Nat} {bs : List Bd} (hg : good n bs) : ∀ r, low (r * bs.length) (runs n (bs.map ed) r).d := by
  intro r
  induction r with
  | zero =>
    intro v
    simp only [runs, rinit, gd, List.getD_eq_getElem?_getD, List.getElem?_replicate]
    split <;> simp
  | succ r ih =>
    have h := relaxK_low hg (s := ⟨(runs n (bs.map ed) r).d, (runs n (bs.map ed) r).l, -1⟩) (runs_len r).1 ih bs.length
    have e : (r + 1) * bs.length = r * bs.length + bs.length := Nat.succ_mul _ _
    rw [e]
    have e2 : runs n (bs.map ed) (r + 1) = relaxK (bs.map ed) ⟨(runs n (bs.map ed) r).d, (runs n (bs.map ed) r).l, -1⟩ bs.length := by simp only [runs, rround, List.length_map]
    rw [e2]
    exact h
end Go.Proofs.Ytgecbjjcjemcgaa
