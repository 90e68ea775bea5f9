/- Plain lemmas on memory that every proof of this seat uses: blocks that a call has made itself, kept apart from what was there before; regions that only read and call functions that make new memory. -/
import Derived.WalkKit
import Derived.WalkSpells
import Derived.WalkLawsBesides
import Derived.KernelRfl
import Derived.Deep.QuietTactic
import Derived.BigQuiet
import Derived.Lib.Hide
import Derived.Maps.AppendAt
namespace Go.Proofs.YtclpglgigpjfoaaDoor
open Go.RowKit

theorem bel_al {w W : World} (h : Below w.heap.size w W) (o : Obj) : Below w.heap.size w (W.alloc o) := h.alloc h.size o
theorem bel_tr {w W w' : World} (h : Below w.heap.size w W) (hb : Below W.heap.size W w') : Below w.heap.size w w' := h.trans (hb.mono h.size)
theorem bel_set {w W : World} (h : Below w.heap.size w W) {b i : Nat} (hb : w.heap.size ≤ b) (v : Value) : Below w.heap.size w (W.setCell ⟨b, i, none⟩ v) := h.setCell (p := ⟨b, i, none⟩) hb v

/-- A block that the call itself has made: its number, its cells, its element type. -/
abbrev Ent := Nat × List Value × TypeId

/-- The world w, seen from the world w0 where the call began: what was there is as it was; the blocks of L are the call's own, apart from each other. -/
structure St (w0 w : World) (L : List Ent) : Prop where
  below : Below w0.heap.size w0 w
  own : ∀ e ∈ L, w.heap[e.1]? = some (.cells e.2.1.toArray e.2.2 (0, 0)) ∧ w0.heap.size ≤ e.1
  apart : L.Pairwise (fun a b => a.1 ≠ b.1)

section
variable {w0 w w' : World} {L : List Ent}

theorem St.start (w : World) : St w w [] := ⟨Below.refl _ _, by simp, by simp⟩

theorem St.lt (h : St w0 w L) {e : Ent} (he : e ∈ L) : e.1 < w.heap.size := by
  have := (h.own e he).1
  rcases Nat.lt_or_ge e.1 w.heap.size with h' | h'
  · exact h'
  · rw [Array.getElem?_eq_none h'] at this; cases this

theorem St.alloc (h : St w0 w L) (cs : List Value) (t : TypeId) : St w0 (w.alloc (.cells cs.toArray t)) ((w.heap.size, cs, t) :: L) := by
  refine ⟨h.below.alloc h.below.size _, ?_, ?_⟩
  · intro e he
    rcases List.mem_cons.1 he with rfl | he
    · exact ⟨heap_alloc_new w _, h.below.size⟩
    · exact ⟨(Below.heap_alloc w _ e.1 (h.lt he)).trans (h.own e he).1, (h.own e he).2⟩
  · refine List.Pairwise.cons ?_ h.apart
    intro e he
    have := h.lt he
    simp only [ne_eq]
    omega

theorem St.drew (h : St w0 w L) : St w0 w.drew L := ⟨h.below.drew, h.own, h.apart⟩

theorem St.call (h : St w0 w L) (hb : Below w.heap.size w w') : St w0 w' L :=
  ⟨h.below.trans (hb.mono h.below.size), fun e he => ⟨(hb.block e.1 (h.lt he)).trans (h.own e he).1, (h.own e he).2⟩, h.apart⟩

theorem St.cell (h : St w0 w L) {b : Nat} {cs : List Value} {t : TypeId} (he : (b, cs, t) ∈ L) (i : Nat) : w.cell? ⟨b, i, none⟩ = cs[i]? := by
  have := (h.own _ he).1
  simp [World.cell?, this]

theorem St.frozen (h : St w0 w L) {b : Nat} {cs : List Value} {t : TypeId} (he : (b, cs, t) ∈ L) (i : Nat) : w.frozen? ⟨b, i, none⟩ = false := by
  have := (h.own _ he).1
  simp [World.frozen?, this]

theorem St.old (h : St w0 w L) (b i : Nat) (hb : b < w0.heap.size) : w.cell? ⟨b, i, none⟩ = w0.cell? ⟨b, i, none⟩ := h.below.cell (p := ⟨b, i, none⟩) hb

theorem St.set (h : St w0 w L) (k : Nat) {b : Nat} {cs : List Value} {t : TypeId} (he : L[k]? = some (b, cs, t)) (i : Nat) (v : Value) :
    St w0 (w.setCell ⟨b, i, none⟩ v) (L.set k (b, cs.set i v, t)) := by
  have hk : k < L.length := (List.getElem?_eq_some_iff.1 he).1
  have hm : (b, cs, t) ∈ L := List.mem_of_getElem? he
  refine ⟨h.below.setCell (h.own _ hm).2 v, ?_, ?_⟩
  · intro e hme
    rcases List.mem_iff_getElem?.1 hme with ⟨j, hj⟩
    rw [List.getElem?_set] at hj
    by_cases hkj : k = j
    · subst hkj
      simp only [if_true, hk] at hj
      injection hj with hj
      subst hj
      refine ⟨?_, (h.own _ hm).2⟩
      have := (h.own _ hm).1
      simp [World.setCell, Array.getElem?_modify, this]
    · rw [if_neg hkj] at hj
      have hm' : e ∈ L := List.mem_of_getElem? hj
      have hne : e.1 ≠ b := by
        have hp := List.pairwise_iff_getElem.1 h.apart
        obtain ⟨hjl, hje⟩ := List.getElem?_eq_some_iff.1 hj
        obtain ⟨_, hke⟩ := List.getElem?_eq_some_iff.1 he
        rcases Nat.lt_or_gt_of_ne hkj with hlt | hlt
        · have := hp k j hk hjl hlt
          rw [hke, hje] at this
          exact fun x => this x.symm
        · have := hp j k hjl hk hlt
          rw [hke, hje] at this
          exact this
      exact ⟨(Below.heap_setCell w _ v e.1 hne).trans (h.own e hm').1, (h.own e hm').2⟩
  · have : ∀ (M : List Ent) (k : Nat), M[k]? = some (b, cs, t) → M.Pairwise (fun a b => a.1 ≠ b.1) → (M.set k (b, cs.set i v, t)).Pairwise (fun a b => a.1 ≠ b.1) := by
      intro M
      induction M with
      | nil => intro k hk _; simp at hk
      | cons x M ih =>
        intro k hk hp
        rw [List.pairwise_cons] at hp
        cases k with
        | zero =>
          simp only [List.getElem?_cons_zero, Option.some.injEq] at hk
          subst hk
          simp only [List.set_cons_zero]
          exact List.pairwise_cons.2 hp
        | succ k =>
          simp only [List.getElem?_cons_succ] at hk
          simp only [List.set_cons_succ]
          refine List.pairwise_cons.2 ⟨?_, ih k hk hp.2⟩
          intro e hme
          rcases List.mem_iff_getElem?.1 hme with ⟨j, hj⟩
          rw [List.getElem?_set] at hj
          by_cases hkj : k = j
          · subst hkj
            have hk' : k < M.length := (List.getElem?_eq_some_iff.1 hk).1
            simp only [if_true, hk'] at hj
            injection hj with hj
            subst hj
            exact (hp.1 _ (List.mem_of_getElem? hk) : x.1 ≠ b)
          · rw [if_neg hkj] at hj
            exact hp.1 _ (List.mem_of_getElem? hj)
    exact this L k he h.apart

theorem St.sub (h : St w0 w L) {M : List Ent} (hs : List.Sublist M L) : St w0 w M :=
  ⟨h.below, fun e he => h.own e (hs.subset he), h.apart.sublist hs⟩
end

/-! ### regions that draw their order -/
theorem cell_stays {w w' : World} (hb : Below w.heap.size w w') {b p : Nat} {v : Value} (h : w.cell? ⟨b, p, none⟩ = some v) : w'.cell? ⟨b, p, none⟩ = some v :=
  (hb.cell (p := ⟨b, p, none⟩) (World.block_lt_of_cell? w ⟨b, p, none⟩ h)).trans h

/-- A world that has grown out of w (what was there is as it was), and of which F holds. -/
structure Cls (w : World) (F : World → Prop) where
  W : World
  bel : Below w.heap.size w W
  has : F W

/-- what holds of a world holds of every world that has grown out of it -/
def Grows (F : World → Prop) : Prop := ∀ w1 w2 : World, Below w1.heap.size w1 w2 → F w1 → F w2

/-- A region that draws its order, whose operations read, and call functions that make new memory at most: one walk in the text's order. -/
theorem wp_region_F {P : Program} {id : Nat} {Q : Exit → Act → World → Prop} {a : Act} {w : World} {l : List Oper} (F : World → Prop) (hG : Grows F) (hm : P.follows .mixedOrders = true) (hB : Region.lexB .any l.toArray = true)
    (hF : F w) (h : Nonempty (Cls w F) → (∀ x : Cls w F, F x.W) → wpQuiet P l.toArray (fun w' => ∃ x : Cls w F, w' = x.W) (fun a' => ∀ w', (∃ x : Cls w F, w' = x.W) → Q .normal a' w') l a) : (Code.region id l.toArray true).wp P Q a w :=
  wp_region_quiet (C := fun w' => ∃ x : Cls w F, w' = x.W) hm hB ⟨⟨w.drew, (Below.refl _ w).drew, hG _ _ (Below.refl _ w).drew hF⟩, rfl⟩ (by simpa using h ⟨w, Below.refl _ _, hF⟩ fun x => x.has)

theorem cls_call {P : Program} {f : FuncId} {args : Array Value} {w : World} {F : World → Prop} (hG : Grows F) {x : Cls w F} {v : Value}
    (h : Calls P f args x.W fun e w' => e = .returned v ∧ Below x.W.heap.size x.W w') : Calls P f args x.W fun e w'' => e = .returned v ∧ ∃ y : Cls w F, w'' = y.W :=
  h.mono fun _ w'' ⟨he, hb⟩ => ⟨he, ⟨w'', bel_tr x.bel hb, hG _ _ hb x.has⟩, rfl⟩

theorem cls_same {P : Program} {f : FuncId} {args : Array Value} {w : World} {F : World → Prop} {x : Cls w F} {v : Value}
    (h : Calls P f args x.W fun e w' => e = .returned v ∧ x.W = w') : Calls P f args x.W fun e w'' => e = .returned v ∧ ∃ y : Cls w F, w'' = y.W :=
  h.mono fun _ _ ⟨he, hb⟩ => ⟨he, x, hb.symm⟩

theorem grows_cell (b p : Nat) (v : Value) : Grows fun w => w.cell? ⟨b, p, none⟩ = some v := fun _ _ hb h => cell_stays hb h
theorem grows_and {F G : World → Prop} (hF : Grows F) (hG : Grows G) : Grows fun w => F w ∧ G w := fun _ _ hb h => ⟨hF _ _ hb h.1, hG _ _ hb h.2⟩
theorem grows_true : Grows fun _ => True := fun _ _ _ h => h
end Go.Proofs.YtclpglgigpjfoaaDoor
