/- The table of tightest bounds, where it lies; improving one of its entries. -/
import Derived.Test.YtgecbjjcjemcgaaDslv
namespace Go.Proofs.Ytgecbjjcjemcgaa
open Go.RowKit

theorem made_rep (z : Value) (hz : z.cells = #[z]) (n : Nat) : madeCells z.cells n = (List.replicate n z).toArray := by
  apply Array.ext_getElem?
  intro i
  simp only [madeCells, hz, Array.getElem?_map, List.getElem?_toArray, List.getElem?_replicate]
  by_cases h : i < n
  · simp [h, Nat.mod_one]
  · simp [h]
theorem info_prow : (Try.prog.info? 87).map (fun i => (i.zero, i.size, i.bytes)) = some (some (.slice none 0 0), 1, 24) := by kernel_rfl
theorem info_pint : (Try.prog.info? 86).map (fun i => (i.zero, i.size, i.bytes)) = some (some (.pointer none), 1, 8) := by kernel_rfl
theorem make_rows (n : Nat) (h : n ≤ 64) (w : World) : (Instr.makeSlice 84 (.int .i64 (n : Int)) (.int .i64 (n : Int))).run Try.prog w = .ok (.slice (some ⟨w.heap.size, 0, none⟩) n n) (w.alloc (.cells (List.replicate n (Value.slice none 0 0)).toArray 87)) := by
  obtain ⟨i0, hi0, hz0, hz1, hz2⟩ := info_parts info_prow
  have := run_make (P := Try.prog) w 84 87 i0 _ Try.underlying84 hi0 hz0 .i64 .i64 (n : Int) (n : Int) (by omega) (Int.le_refl _) (by rw [hz2]; omega) (by omega)
  rw [this, hz1]
  simp only [Int.toNat_natCast, Nat.mul_one, made_rep (.slice none 0 0) rfl]
theorem make_ptrs (n : Nat) (h : n ≤ 64) (w : World) : (Instr.makeSlice 87 (.int .i64 (n : Int)) (.int .i64 (n : Int))).run Try.prog w = .ok (.slice (some ⟨w.heap.size, 0, none⟩) n n) (w.alloc (.cells (List.replicate n (Value.pointer none)).toArray 86)) := by
  obtain ⟨i0, hi0, hz0, hz1, hz2⟩ := info_parts info_pint
  have := run_make (P := Try.prog) w 87 86 i0 _ Try.underlying87 hi0 hz0 .i64 .i64 (n : Int) (n : Int) (by omega) (Int.le_refl _) (by rw [hz2]; omega) (by omega)
  rw [this, hz1]
  simp only [Int.toNat_natCast, Nat.mul_one, made_rep (.pointer none) rfl]

def ptr (o : Option Nat) : Value := .pointer (o.map fun q => ⟨q, 0, none⟩)

/-- the first k rows of a table of n columns: block gt holds the rows, block rows x holds the entries of x; each is nil or the address of an integer -/
structure TabAt (w0 W : World) (k n gt : Nat) (rows : Nat → Nat) (p : Nat → Nat → Option Nat) (T : Tab) : Prop where
  outer : ∀ x, x < k → W.cell? ⟨gt, x, none⟩ = some (.slice (some ⟨rows x, 0, none⟩) n n)
  row : ∀ x y, x < k → y < n → W.cell? ⟨rows x, y, none⟩ = some (ptr (p x y))
  fz : ∀ x y, x < k → W.frozen? ⟨rows x, y, none⟩ = false
  no : ∀ x y, x < k → y < n → p x y = none → T x y = none
  yes : ∀ x y q, x < k → y < n → p x y = some q → ∃ c, T x y = some c ∧ W.cell? ⟨q, 0, none⟩ = some (.int .i64 c) ∧ (∀ z, z < k → q ≠ rows z) ∧ q ≠ gt
  inj : ∀ x z, x < k → z < k → rows x = rows z → x = z
  og : ∀ x, x < k → rows x ≠ gt
  own : ∀ x, x < k → w0.heap.size ≤ rows x
  bel : Below w0.heap.size w0 W

section
variable {w0 W W' : World} {k n gt : Nat} {rows : Nat → Nat} {p : Nat → Nat → Option Nat} {T : Tab}
theorem frozen_stays {W W' : World} (hb : Below W.heap.size W W') {b p : Nat} {v : Value} (hc : W.cell? ⟨b, p, none⟩ = some v) (h : W.frozen? ⟨b, p, none⟩ = false) : W'.frozen? ⟨b, p, none⟩ = false :=
  (World.frozen?_of_block (a := ⟨b, p, none⟩) (hb.block b (World.block_lt_of_cell? W ⟨b, p, none⟩ hc))).trans h
theorem TabAt.grow (hn : 0 < n) (h : TabAt w0 W k n gt rows p T) (hb : Below W.heap.size W W') : TabAt w0 W' k n gt rows p T :=
  ⟨fun x hx => cell_stays hb (h.outer x hx), fun x y hx hy => cell_stays hb (h.row x y hx hy),
   fun x y hx => (World.frozen?_of_block (a := ⟨rows x, y, none⟩) (hb.block (rows x) (World.block_lt_of_cell? W ⟨rows x, 0, none⟩ (h.row x 0 hx hn)))).trans (h.fz x y hx), h.no,
   fun x y q hx hy hq => by obtain ⟨c, h1, h2, h3⟩ := h.yes x y q hx hy hq; exact ⟨c, h1, cell_stays hb h2, h3⟩, h.inj, h.og, h.own, bel_tr h.bel hb⟩
/-- one entry is made to point to a new integer -/
theorem TabAt.put (h : TabAt w0 W k n gt rows p T) {x y q : Nat} {m : Int} (hx : x < k) (hq : W.cell? ⟨q, 0, none⟩ = some (.int .i64 m)) (hqr : ∀ z, z < k → q ≠ rows z) (hqg : q ≠ gt) :
    TabAt w0 (W.setCell ⟨rows x, y, none⟩ (.pointer (some ⟨q, 0, none⟩))) k n gt rows (fun u v => if u = x ∧ v = y then some q else p u v) (fun u v => if u = x ∧ v = y then some m else T u v) := by
  refine ⟨fun u hu => ?_, fun u v hu hv => ?_, fun u v hu => ?_, fun u v hu hv => ?_, fun u v r hu hv => ?_, h.inj, h.og, h.own, bel_set h.bel (h.own x hx) _⟩
  · rw [cell_far (h.og x hx)]; exact h.outer u hu
  · by_cases he : u = x ∧ v = y
    · obtain ⟨rfl, rfl⟩ := he
      simp only [and_self, if_true]
      exact World.cell?_setCell_same' _ _ _ (by rw [h.row u v hu hv]; rfl)
    · simp only [if_neg he]
      by_cases hux : u = x
      · subst hux
        have hvy : v ≠ y := fun e => he ⟨rfl, e⟩
        have := h.row u v hu hv
        rw [← this]
        simp [World.cell?, World.setCell, Array.getElem?_modify]
        cases hh : W.heap[rows u]? with
        | none => simp
        | some o =>
          cases o <;> simp
          rw [Array.getElem?_setIfInBounds_ne (fun e => hvy e.symm)]
      · rw [cell_far (fun e => hux (h.inj x u hx hu e).symm)]
        exact h.row u v hu hv
  · rw [World.frozen?_setCell]; exact h.fz u v hu
  · by_cases he : u = x ∧ v = y
    · simp only [if_pos he]; intro h5; cases h5
    · simp only [if_neg he]; exact h.no u v hu hv
  · by_cases he : u = x ∧ v = y
    · simp only [if_pos he]
      intro h5
      injection h5 with h5
      subst h5
      exact ⟨m, rfl, by rw [cell_far (fun e => hqr x hx e.symm)]; exact hq, hqr, hqg⟩
    · simp only [if_neg he]
      intro h5
      obtain ⟨c, h1, h2, h3, h4⟩ := h.yes u v r hu hv h5
      exact ⟨c, h1, by rw [cell_far (fun e => h3 x hx e.symm)]; exact h2, h3, h4⟩
end

theorem imp_new {T : Tab} {x y : Nat} {m : Int} (h : T x y = none ∨ ∃ c, T x y = some c ∧ m < c) : imp T x y m = fun u v => if u = x ∧ v = y then some m else T u v := by
  funext u v
  unfold imp
  by_cases hu : u = x ∧ v = y
  · rw [if_pos hu, if_pos hu]
    rcases h with h | ⟨c, h, hm⟩
    · rw [h]; rfl
    · rw [h]; simp only [bet]; rw [if_pos hm]
  · rw [if_neg hu, if_neg hu]
theorem imp_old {T : Tab} {x y : Nat} {m c : Int} (h : T x y = some c) (hm : ¬ m < c) : imp T x y m = T := by
  funext u v
  unfold imp
  by_cases hu : u = x ∧ v = y
  · obtain ⟨rfl, rfl⟩ := hu
    rw [if_pos ⟨rfl, rfl⟩, h]; simp only [bet]; rw [if_neg hm]
  · rw [if_neg hu]

/-- what improving leaves -/
def ImpRet (w0 W : World) (n gt : Nat) (rows : Nat → Nat) (T : Tab) (e : Ending) (W' : World) : Prop := e = .returned (.tuple #[]) ∧ (∃ p, TabAt w0 W' n n gt rows p T) ∧ W.heap.size ≤ W'.heap.size ∧ ∀ b, b < W.heap.size → (∀ z, z < n → b ≠ rows z) → W'.heap[b]? = W.heap[b]?

set_option maxRecDepth 100000 in
set_option maxHeartbeats 2000000 in
theorem improve_any (w0 W : World) (n gt : Nat) (rows : Nat → Nat) (p : Nat → Nat → Option Nat) (T : Tab) (h : TabAt w0 W n n gt rows p T) (x y : Nat) (m : Int) (hx : x < n) (hy : y < n) :
    Calls Try.prog 74 #[.slice (some ⟨gt, 0, none⟩) n n, .int .i64 (x : Int), .int .i64 (y : Int), .int .i64 m] W (ImpRet w0 W n gt rows (imp T x y m)) := by
  have HT := Lib.hid h
  have q0 := h.outer x hx
  have q1 := h.row x y hx hy
  have q2 := h.fz x y hx
  have hgl := World.block_lt_of_cell? W _ q0
  have hrl := World.block_lt_of_cell? W _ q1
  have hx' : (x : Int) < (n : Int) := by omega
  have hy' : (y : Int) < (n : Int) := by omega
  simp only at hgl hrl
  have HRL : Hid (∀ z, z < n → rows z < W.heap.size) := Lib.hid (fun z hz => by have := World.block_lt_of_cell? W _ (h.row z y hz hy); simpa using this)
  clear h
  obtain ⟨e, he⟩ : ∃ e, e = p x y := ⟨_, rfl⟩
  rw [← he] at q1
  have HE := Lib.hid he
  clear he
  go_enter Try.func74, Try.ntmps74
  go_wp2_with fail
  refine wp_gen ?_
  intro W1 hW1
  have hb1 : Below W.heap.size W W1 := by rw [hW1]; exact bel_one _ _
  have y0 : W1.cell? ⟨W.heap.size, 0, none⟩ = some (.int .i64 m) := by rw [hW1]; exact (new_cells (Below.refl _ _)).1 0
  have hs1 : W1.heap.size = W.heap.size + 1 := by rw [hW1]; simp
  clear hW1
  replace q2 := frozen_stays hb1 q1 q2
  replace q0 := cell_stays hb1 q0
  replace q1 := cell_stays hb1 q1
  have HT1 := Lib.hid (HT.out.grow (by omega) hb1)
  cases e with
  | none =>
    simp only [ptr, Option.map_none] at q1
    have HIN := Lib.hid (imp_new (m := m) (.inl (HT.out.no x y hx hy HE.out.symm)))
    refine wp_region_F (fun W => W.cell? ⟨gt, x, none⟩ = some (.slice (some ⟨rows x, 0, none⟩) n n) ∧ W.cell? ⟨rows x, y, none⟩ = some (.pointer none)) (by repeat (first | exact grows_cell _ _ _ | exact grows_true | refine grows_and ?_ ?_)) (by kernel_rfl) (by kernel_rfl) ?hF ?_; (case hF => (first | exact ⟨‹_›, ‹_›⟩ | (go_simp; done) | (simp [*]; done))); intro hne hxx; have hG : Hid (Grows (fun W => W.cell? ⟨gt, x, none⟩ = some (.slice (some ⟨rows x, 0, none⟩) n n) ∧ W.cell? ⟨rows x, y, none⟩ = some (.pointer none))) := (by repeat (first | exact grows_cell _ _ _ | exact grows_true | refine grows_and ?_ ?_)); (repeat (go_big_quiet_step (fail))); clear hG hxx hne; refine wpQuiet_nil ?_; rintro _ ⟨⟨w', hb', hF'⟩, rfl⟩
    clear hF'
    have hb2 := bel_tr hb1 hb'
    have f2 := frozen_stays hb' q1 q2
    replace q0 := cell_stays hb' q0
    replace q1 := cell_stays hb' q1
    have y1 := cell_stays hb' y0
    have HT2 := Lib.hid (HT1.out.grow (by omega) hb')
    have hbs : Below W.heap.size W W1 := hb1
    go_wp2_with fail
    go_end0
    refine ⟨rfl, ⟨_, by rw [HIN.out]; exact HT2.out.put hx y1 (fun z hz e => by have := HRL.out z hz; omega) (by omega)⟩, ?_, ?_⟩
    · simp only [World.size_setCell]; exact hb2.size
    · intro b hb hn
      rw [Below.heap_setCell _ _ _ _ (hn x hx)]
      exact hb2.block b hb
  | some q =>
    obtain ⟨c, hc, hcq, hqr, hqg⟩ := HT.out.yes x y q hx hy HE.out.symm
    simp only [ptr, Option.map_some] at q1
    have q3 := cell_stays hb1 hcq
    have HC := Lib.hid hc
    clear hc
    go_region_held3 (fun W' => W'.cell? ⟨gt, x, none⟩ = some (.slice (some ⟨rows x, 0, none⟩) n n) ∧ W'.cell? ⟨rows x, y, none⟩ = some (.pointer (some ⟨q, 0, none⟩)) ∧ W'.cell? ⟨q, 0, none⟩ = some (.int .i64 c) ∧ W'.cell? ⟨W.heap.size, 0, none⟩ = some (.int .i64 m)) (exact ⟨q0, q1, q3, y0⟩) (fail)
    have q0' : W1.drew.cell? ⟨gt, x, none⟩ = some (.slice (some ⟨rows x, 0, none⟩) n n) := q0
    have q1' : W1.drew.cell? ⟨rows x, y, none⟩ = some (.pointer (some ⟨q, 0, none⟩)) := q1
    have q2' : W1.drew.frozen? ⟨rows x, y, none⟩ = false := q2
    have hb2 : Below W.heap.size W W1.drew := hb1.drew
    have HT2 := Lib.hid (HT1.out.grow (by omega) (Below.refl _ W1).drew)
    by_cases hm : m < c
    · have HIN := Lib.hid (imp_new (m := m) (.inr ⟨c, HC.out, hm⟩))
      go_wp2_with fail
      go_end0
      refine ⟨rfl, ⟨_, by rw [HIN.out]; exact (HT1.out.put hx y0 (fun z hz e => by have := HRL.out z hz; omega) (by omega)).grow (by omega) (Below.refl _ _).drew⟩, ?_, ?_⟩
      · simp only [World.size_drew, World.size_setCell]; exact hb1.size
      · intro b hb hn
        have h5 : (W1.setCell ⟨rows x, y, none⟩ (.pointer (some ⟨W.heap.size, 0, none⟩))).heap[b]? = W.heap[b]? := by
          rw [Below.heap_setCell _ _ _ _ (hn x hx)]
          exact hb1.block b hb
        exact h5
    · have HIN := Lib.hid (imp_old (T := T) (x := x) (y := y) HC.out hm)
      go_wp2_with fail
      go_end0
      exact ⟨rfl, ⟨_, by rw [HIN.out]; exact HT2.out⟩, hb2.size, fun b hb _ => hb2.block b hb⟩
end Go.Proofs.Ytgecbjjcjemcgaa
