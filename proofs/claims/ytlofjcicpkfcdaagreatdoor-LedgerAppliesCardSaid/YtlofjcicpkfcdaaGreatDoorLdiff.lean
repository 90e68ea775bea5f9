/- ledger.Difference: its closure, which adds the changes of one sign. -/
import Derived.Test.YtlofjcicpkfcdaaGreatDoorLstand
namespace Go.Proofs.YtlofjcicpkfcdaaGreatDoor
open Go.RowKit

def addsOf (s : Int) (T : List Ety) : List Chg := T.flatMap fun x => List.replicate (s * x.n).toNat ⟨s, x.q, x.bs⟩
theorem adds_take {s : Int} {T : List Ety} {k : Nat} {x : Ety} (h : T[k]? = some x) : addsOf s (T.take (k + 1)) = addsOf s (T.take k) ++ List.replicate (s * x.n).toNat ⟨s, x.q, x.bs⟩ := by
  unfold addsOf
  rw [take_snoc' h, List.flatMap_append]; simp
def cellsC : List (Chg × Value) → List Value
  | [] => []
  | e :: l => .int .i64 e.1.sg :: .int .i64 e.1.q :: e.2 :: cellsC l
theorem cellsC_len (l : List (Chg × Value)) : (cellsC l).length = l.length * 3 := by
  induction l with
  | nil => rfl
  | cons e l ih => simp only [cellsC, List.length_cons, ih]; omega
theorem cellsC_app (l m : List (Chg × Value)) : cellsC (l ++ m) = cellsC l ++ cellsC m := by
  induction l with
  | nil => rfl
  | cons e l ih => simp only [List.cons_append, cellsC, ih]
theorem cellsC_at {l : List (Chg × Value)} {k : Nat} {e : Chg × Value} (h : l[k]? = some e) : (cellsC l)[k * 3]? = some (.int .i64 e.1.sg) ∧ (cellsC l)[k * 3 + 1]? = some (.int .i64 e.1.q) ∧ (cellsC l)[k * 3 + 2]? = some e.2 := by
  induction l generalizing k with
  | nil => simp at h
  | cons x l ih =>
    cases k with
    | zero => simp at h; subst h; simp [cellsC]
    | succ k =>
      obtain ⟨h1, h2, h3⟩ := ih (k := k) (by simpa using h)
      rw [show (k + 1) * 3 = k * 3 + 3 by omega]
      simp only [cellsC]
      exact ⟨h1, h2, h3⟩
theorem cellsC_one {l : List (Chg × Value)} (h : ∀ e ∈ l, e.2.oneCell' = true) : ∀ u ∈ cellsC l, u.oneCell' = true := by
  induction l with
  | nil => simp [cellsC]
  | cons e l ih =>
    intro u hu
    simp only [cellsC, List.mem_cons] at hu
    rcases hu with rfl | rfl | rfl | hu
    · rfl
    · rfl
    · exact h e (List.mem_cons_self ..)
    · exact ih (fun x hx => h x (List.mem_cons_of_mem _ hx)) u hu
/-- a row of changes of the call's own, each with its bindings elsewhere -/
structure CW (B : Nat) (wr : World) (av : Value) (ms : List (Chg × Value)) : Prop where
  row : wr.ownsRow B 32 3 av ms.length (cellsC ms)
  bnds : ∀ e ∈ ms, IsBnds wr e.2 e.1.bs ∧ ∀ g, e.2.ownBlock = some g → B ≤ g ∧ g < wr.heap.size ∧ some g ≠ av.ownBlock
theorem CW.nil (B : Nat) (w : World) : CW B w (.slice none 0 0) [] := ⟨⟨by simp [cellsC], .inl ⟨rfl, rfl⟩⟩, by simp⟩
theorem CW.grow {B : Nat} {wr w1 : World} {av : Value} {ms : List (Chg × Value)} (h : CW B wr av ms) (hb : Below wr.heap.size wr w1) : CW B w1 av ms :=
  ⟨ownsRow_below h.row hb, fun e he => ⟨(h.bnds e he).1.stays bndAt_stays hb, fun g hg => by have := (h.bnds e he).2 g hg; exact ⟨this.1, Nat.lt_of_lt_of_le this.2.1 hb.size, this.2.2⟩⟩⟩
theorem CW.app {B : Nat} {w6 w7 : World} {av v7 u : Value} {ms : List (Chg × Value)} {x : Chg} {o : Obj} (h : CW B w6 av ms) (hu : IsBnds w6 u x.bs) (hub : ∀ g, u.ownBlock = some g → B ≤ g ∧ g < w6.heap.size ∧ some g ≠ av.ownBlock)
    (hown : w7.ownsRow B 32 3 v7 (ms.length + 1) (cellsC ms ++ [.int .i64 x.sg, .int .i64 x.q, u])) (hg : (w6.alloc o).grownBy w7 av.ownBlock) (hloc : v7.ownBlock = av.ownBlock ∨ v7.ownBlock = some (w6.alloc o).heap.size) :
    CW B w7 v7 (ms ++ [(x, u)]) := by
  have hkeep : ∀ g, g < w6.heap.size → some g ≠ av.ownBlock → w7.heap[g]? = w6.heap[g]? := fun g h1 h2 => (hg.block g (by simp; omega) h2).trans (Below.heap_alloc w6 o g h1)
  have hsz : w6.heap.size < w7.heap.size := Nat.lt_of_lt_of_le (by simp) hg.size
  refine ⟨by rw [cellsC_app, List.length_append]; exact hown, ?_⟩
  intro e he
  have h0 : IsBnds w6 e.2 e.1.bs ∧ ∀ g, e.2.ownBlock = some g → B ≤ g ∧ g < w6.heap.size ∧ some g ≠ av.ownBlock := by
    rcases List.mem_append.1 he with he | he
    · exact h.bnds e he
    · simp at he; subst he; exact ⟨hu, hub⟩
  refine ⟨sl_kept h0.1 fun g hg1 => hkeep g (h0.2 g hg1).2.1 (h0.2 g hg1).2.2, fun g hg1 => ?_⟩
  have h1 := h0.2 g hg1
  refine ⟨h1.1, by omega, ?_⟩
  rcases hloc with hl | hl
  · rw [hl]; exact h1.2.2
  · rw [hl]; simp; omega
/-- a store into a block below the row's base changes nothing of it -/
theorem CW.set {B : Nat} {wr : World} {av : Value} {ms : List (Chg × Value)} (h : CW B wr av ms) {b i : Nat} (hb : b < B) (v : Value) : CW B (wr.setCell ⟨b, i, none⟩ v) av ms := by
  refine ⟨ownsRow_kept h.row fun g hg => Below.heap_setCell _ _ _ _ (by have := (ownsRow_lt h.row hg).1; simp only; omega), fun e he => ⟨sl_kept (h.bnds e he).1 fun g hg => Below.heap_setCell _ _ _ _ (by have := ((h.bnds e he).2 g hg).1; simp only; omega), fun g hg => ?_⟩⟩
  have := (h.bnds e he).2 g hg
  exact ⟨this.1, by simpa using this.2.1, this.2.2⟩
theorem CW.is {B : Nat} {wr : World} {av : Value} {ms : List (Chg × Value)} (h : CW B wr av ms) : IsChgs wr av (ms.map (·.1)) := by
  have h1 := cellsC_one (l := ms) fun e he => sl_oneCell (h.bnds e he).1
  obtain ⟨A, c, rfl, h2, h3, h4⟩ := ownsRow_src h.row h1
  refine ⟨A, c, by rw [List.length_map], by rw [List.length_map]; exact h2, h3, fun k x hk => ?_⟩
  rw [List.getElem?_map] at hk
  obtain ⟨e, he, rfl⟩ := Option.map_eq_some_iff.1 hk
  have hkl := (List.getElem?_eq_some_iff.1 he).1
  obtain ⟨b, o, hA, hcs⟩ := h4.2.2 (by omega)
  obtain ⟨k0, k1, k2⟩ := cellsC_at he
  exact ⟨b, o, hA, e.2, (h.bnds e (List.mem_of_getElem? he)).1, hcs _ _ k0, hcs _ _ k1, hcs _ _ k2⟩
end Go.Proofs.YtlofjcicpkfcdaaGreatDoor
