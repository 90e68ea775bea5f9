/- Rows of queues that a call has made: what they read as when one queue is given other items. -/
import Derived.Test.YteonfoaemljndaaCopd
import Derived.Test.YteonfoaemljndaaFind
namespace Go.Proofs.Yteonfoaemljndaa
open Go.RowKit

def withItems (q : Queue) (xs : List Item) : Queue := { q with items := xs }
def setItems (l : List Queue) (i : Nat) (xs : List Item) : List Queue := match l[i]? with
  | some q => l.set i (withItems q xs)
  | none => l

theorem qcells_setItems : ∀ (l : List Queue) (vs : List Value) (i : Nat) (xs : List Item), qcells (setItems l i xs) vs = qcells l vs := by
  intro l
  induction l with
  | nil => intro vs i xs; rfl
  | cons q l ih =>
    intro vs i xs
    cases vs with
    | nil => simp [qcells]
    | cons v vs =>
      cases i with
      | zero => simp [setItems, qcells, withItems]
      | succ i =>
        have := ih vs i xs
        unfold setItems at *
        simp only [List.getElem?_cons_succ]
        cases h : l[i]? with
        | none => rfl
        | some p => rw [h] at this; simp [qcells, this]

theorem setItems_length (l : List Queue) (i : Nat) (xs : List Item) : (setItems l i xs).length = l.length := by
  unfold setItems; split <;> simp
theorem setItems_get {l : List Queue} {i : Nat} {xs : List Item} {q : Queue} (h : l[i]? = some q) : (setItems l i xs)[i]? = some (withItems q xs) := by
  unfold setItems; rw [h]; simp [(List.getElem?_eq_some_iff.1 h).1]
theorem setItems_ne {l : List Queue} {i j : Nat} {xs : List Item} (h : i ≠ j) : (setItems l i xs)[j]? = l[j]? := by
  unfold setItems; split
  · rw [List.getElem?_set_ne h]
  · rfl

theorem queues_of_blk {W : World} {g cap : Nat} {l : List Queue} {vs spare : List Value} (hb : W.heap[g]? = some (.cells (qcells l vs ++ spare).toArray 69 (0, 0))) (hl : vs.length = l.length)
    (hi : ∀ (j : Nat) (v : Value) (q : Queue), vs[j]? = some v → l[j]? = some q → IsItems W v q.items) (h1 : l.length ≤ cap) (h2 : cap ≤ maxLen) : IsQueues W (.slice (some ⟨g, 0, none⟩) l.length cap) l := by
  refine ⟨_, _, rfl, h1, h2, fun k q hk => ⟨g, 0, rfl, ?_⟩⟩
  have hkl := (List.getElem?_eq_some_iff.1 hk).1
  have hv := List.getElem?_eq_getElem (l := vs) (i := k) (by omega)
  obtain ⟨e0, e1, e2⟩ := qcells_get 0 l vs k q _ hk hv
  have hlen := qcells_length l vs hl
  refine ⟨vs[k], hi k _ q hv hk, ?_, ?_, ?_⟩
  · rw [Nat.zero_add, blk_cell hb, List.getElem?_append_left (by omega)]; exact e0
  · rw [Nat.zero_add, blk_cell hb, List.getElem?_append_left (by omega)]; exact e1
  · rw [Nat.zero_add, blk_cell hb, List.getElem?_append_left (by omega)]; exact e2

/-- one queue of a row is given the items xs (the slice v2) -/
theorem queues_upd {W : World} {g cap i : Nat} {l : List Queue} {vs spare : List Value} {v2 : Value} {xs : List Item} (hb : W.heap[g]? = some (.cells (qcells l vs ++ spare).toArray 69 (0, 0))) (hl : vs.length = l.length)
    (hil : i < l.length) (hi : ∀ (j : Nat) (v : Value) (q : Queue), j ≠ i → vs[j]? = some v → l[j]? = some q → IsItems (W.setCell ⟨g, i * 3 + 2, none⟩ v2) v q.items)
    (h2 : IsItems (W.setCell ⟨g, i * 3 + 2, none⟩ v2) v2 xs) (h3 : l.length ≤ cap) (h4 : cap ≤ maxLen) :
    IsQueues (W.setCell ⟨g, i * 3 + 2, none⟩ v2) (.slice (some ⟨g, 0, none⟩) l.length cap) (setItems l i xs) := by
  have hlen := qcells_length l vs hl
  have hb2 : (W.setCell ⟨g, i * 3 + 2, none⟩ v2).heap[g]? = some (.cells (qcells (setItems l i xs) (vs.set i v2) ++ spare).toArray 69 (0, 0)) := by
    rw [blk_set hb, List.set_append_left _ _ (by omega), qcells_set l vs i v2 hl hil, qcells_setItems]
  have := queues_of_blk (cap := cap) hb2 (by rw [List.length_set, setItems_length, hl]) (fun j v q hv hq => ?_) (by rw [setItems_length]; exact h3) h4
  · rwa [setItems_length] at this
  · by_cases hji : i = j
    · subst hji
      rw [setItems_get (List.getElem?_eq_getElem hil)] at hq
      injection hq with hq
      subst hq
      simp only [List.getElem?_set_self' ] at hv
      rw [List.getElem?_eq_getElem (by omega)] at hv
      simp at hv
      subst hv
      exact h2
    · rw [setItems_ne hji] at hq
      rw [List.getElem?_set_ne hji] at hv
      exact hi j v q (Ne.symm hji) hv hq

theorem Copied.cell {w W : World} {B : Nat} {v : Value} {l : List Queue} {vs : List Value} {g cap : Nat} {spare : List Value} (h : Copied w B W v l vs g cap spare) {i : Nat} {q : Queue} {u : Value} (hq : l[i]? = some q) (hu : vs[i]? = some u) :
    W.cell? ⟨g, i * 3, none⟩ = some (.int .i64 q.frm) ∧ W.cell? ⟨g, i * 3 + 1, none⟩ = some (.int .i64 q.to) ∧ W.cell? ⟨g, i * 3 + 2, none⟩ = some u := by
  have hkl := (List.getElem?_eq_some_iff.1 hq).1
  obtain ⟨e0, e1, e2⟩ := qcells_get 0 l vs i q u hq hu
  have hlen := qcells_length l vs h.len
  refine ⟨?_, ?_, ?_⟩
  · rw [blk_cell h.blk, List.getElem?_append_left (by omega)]; exact e0
  · rw [blk_cell h.blk, List.getElem?_append_left (by omega)]; exact e1
  · rw [blk_cell h.blk, List.getElem?_append_left (by omega)]; exact e2

theorem Copied.items {w W : World} {B : Nat} {v : Value} {l : List Queue} {vs : List Value} {g cap : Nat} {spare : List Value} (h : Copied w B W v l vs g cap spare) {i : Nat} {q : Queue} {u : Value} (hq : l[i]? = some q) (hu : vs[i]? = some u) : IsItems W u q.items := by
  obtain ⟨cs, hm, ho, _⟩ := h.own.row i u q hu hq
  exact sl_of_means hm h.bel ho

theorem Copied.queues {w W : World} {B : Nat} {v : Value} {l : List Queue} {vs : List Value} {g cap : Nat} {spare : List Value} (h : Copied w B W v l vs g cap spare) : IsQueues W v l := by
  rw [h.val]
  exact queues_of_blk h.blk h.len (fun j u q hu hq => h.items hq hu) h.le h.capm

/-- the row of one queue is appended to, and stored back -/
theorem Copied.upd {w W W2 : World} {B : Nat} {v : Value} {l : List Queue} {vs : List Value} {g cap : Nat} {spare : List Value} (h : Copied w B W v l vs g cap spare) {i : Nat} {q : Queue} {u u2 : Value} (hq : l[i]? = some q) (hu : vs[i]? = some u)
    {cs2 : List Value} {xs : List Item} (hm : Means ItemAt 7 w cs2 xs) (ho : W2.ownsRow B 39 7 u2 xs.length cs2) (hg : W.grownBy W2 u.ownBlock) (hat : ∀ b, u2.ownBlock = some b → u.ownBlock = some b ∨ W.heap.size ≤ b) :
    Copied w B (W2.setCell ⟨g, i * 3 + 2, none⟩ u2) v (setItems l i xs) (vs.set i u2) g cap spare := by
  have hil := (List.getElem?_eq_some_iff.1 hq).1
  have hlen := qcells_length l vs h.len
  have hvl := h.len
  obtain ⟨cs, hm0, ho0, hn0⟩ := h.own.row i u q hu hq
  have hgl := blk_lt h.blk
  have hblk2 : W2.heap[g]? = some (.cells (qcells l vs ++ spare).toArray 69 (0, 0)) := (hg.block g hgl (Ne.symm hn0)).trans h.blk
  have hbel2 : Below w.heap.size w W2 := h.bel.trans (grown_below hg h.bel.size (fun b hb => Nat.le_trans h.wB (ownsRow_lt ho0 hb).1))
  have hu2g : u2.ownBlock ≠ some g := fun e => by
    rcases hat g e with h1 | h1
    · exact hn0 h1
    · omega
  refine ⟨by rw [setItems_length]; exact h.val, by rw [setItems_length]; exact h.le, h.capm, h.base, h.wB, ?_, by rw [List.length_set, setItems_length, h.len], ⟨?_, ?_⟩, bel_set hbel2 (Nat.le_trans h.wB h.base) _⟩
  · rw [blk_set hblk2, List.set_append_left _ _ (by omega), qcells_set l vs i u2 h.len hil, qcells_setItems]
  · intro j x p hx hp
    by_cases hji : i = j
    · subst hji
      rw [setItems_get hq] at hp
      injection hp with hp
      subst hp
      rw [List.getElem?_set_self (by omega)] at hx
      injection hx with hx
      subst hx
      exact ⟨cs2, hm, ownsRow_kept ho (fun b hb => Below.heap_setCell W2 ⟨g, i * 3 + 2, none⟩ u2 b (fun e => hu2g (by rw [hb, e]))), hu2g⟩
    · rw [setItems_ne hji] at hp
      rw [List.getElem?_set_ne hji] at hx
      obtain ⟨cs', hm', ho', hn'⟩ := h.own.row j x p hx hp
      refine ⟨cs', hm', ownsRow_kept ho' (fun b hb => ?_), hn'⟩
      rw [Below.heap_setCell W2 ⟨g, i * 3 + 2, none⟩ u2 b (fun e => hn' (by rw [hb, e]))]
      exact hg.block b (ownsRow_lt ho' hb).2 (fun e => hji (h.own.apart i j u x b hu hx e.symm hb))
  · intro a b x y z hx hy hbx hby
    by_cases hia : i = a
    · by_cases hib : i = b
      · omega
      · subst hia
        rw [List.getElem?_set_self (by omega)] at hx
        rw [List.getElem?_set_ne hib] at hy
        injection hx with hx
        subst hx
        have hbl := (List.getElem?_eq_some_iff.1 hy).1
        obtain ⟨cs', _, ho', _⟩ := h.own.row b y _ hy (List.getElem?_eq_getElem (by rw [← h.len]; exact hbl))
        rcases hat z hbx with h1 | h1
        · exact h.own.apart i b u y z hu hy h1 hby
        · have := (ownsRow_lt ho' hby).2
          omega
    · rw [List.getElem?_set_ne hia] at hx
      by_cases hib : i = b
      · subst hib
        rw [List.getElem?_set_self (by omega)] at hy
        injection hy with hy
        subst hy
        have hal := (List.getElem?_eq_some_iff.1 hx).1
        obtain ⟨cs', _, ho', _⟩ := h.own.row a x _ hx (List.getElem?_eq_getElem (by rw [← h.len]; exact hal))
        rcases hat z hby with h1 | h1
        · exact h.own.apart a i x u z hx hu hbx h1
        · have := (ownsRow_lt ho' hbx).2
          omega
      · rw [List.getElem?_set_ne hib] at hy
        exact h.own.apart a b x y z hx hy hbx hby

theorem found_ok {l : List Queue} {f t : Int} (h : (foundR l f t).2 = 0) : ∃ (i : Nat) (q : Queue), foundR l f t = ((i : Int), 0) ∧ checkErr l = 0 ∧ findQ l f t = some i ∧ l[i]? = some q := by
  unfold foundR at *
  by_cases hc : checkErr l = 0
  · rw [if_pos hc] at *
    cases hf : findQ l f t with
    | none => rw [hf] at h; simp at h
    | some i =>
      obtain ⟨q, hq, _⟩ := findQ_lt hf
      exact ⟨i, q, rfl, hc, rfl, hq⟩
  · rw [if_neg hc] at h
    exact absurd h hc
theorem found_no {l : List Queue} {f t : Int} (h : (foundR l f t).2 ≠ 0) : (foundR l f t).1 = 0 := by
  unfold foundR at *
  by_cases hc : checkErr l = 0
  · rw [if_pos hc] at *
    cases hf : findQ l f t with
    | none => rfl
    | some i => rw [hf] at h; simp at h
  · rw [if_neg hc]

theorem find_at {l : List Queue} {v : Value} {f t : Int} {w : World} (hl : IsQueues w v l) (hsm : l.length ≤ 1048576) {a b : Int} (hf : foundR l f t = (a, b)) :
    Calls Try.prog 36 #[v, .int .i64 f, .int .i64 t] w fun e w' => e = .returned (.tuple #[.int .i64 a, .int .i64 b]) ∧ Below w.heap.size w w' := by
  have := find_any l v f t w hl hsm
  rw [hf] at this
  exact this
theorem found_at {l : List Queue} {v : Value} {f t : Int} {w : World} (hl : IsQueues w v l) {a b : Int} (hf : foundR l f t = (a, b)) :
    Calls Try.prog 39 #[v, .int .i64 f, .int .i64 t] w fun e w' => e = .returned (.tuple #[.int .i64 a, .int .i64 b]) ∧ Below w.heap.size w w' := by
  have := rfound_any l v f t w hl
  rw [hf] at this
  exact this

/-- channels and an error are handed back -/
def QsRet (w : World) (r : List Queue × Int) (x : Ending) (W : World) : Prop := ∃ v, x = .returned (.tuple #[v, .int .i64 r.2]) ∧ IsQueues W v r.1 ∧ Below w.heap.size w W
end Go.Proofs.Yteonfoaemljndaa
