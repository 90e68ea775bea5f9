/- Rows of cells and the lists that they mean; the rows of queues. -/
import Derived.Test.YteonfoaemljndaaMem
import Derived.Test.YteonfoaemljndaaData
namespace Go.Proofs.Yteonfoaemljndaa
open Go.RowKit

def SlAt {α : Type} (R : World → Nat → Nat → α → Prop) (sz : Nat) (w : World) (b o : Nat) (l : List α) : Prop := ∀ (k : Nat) (x : α), l[k]? = some x → R w b (o + k * sz) x

/-- the cells cs mean the list l wherever they lie, as long as what lay in w is as it was -/
def Means {α : Type} (R : World → Nat → Nat → α → Prop) (sz : Nat) (w : World) (cs : List Value) (l : List α) : Prop :=
  cs.length = l.length * sz ∧ (∀ u ∈ cs, u.oneCell' = true) ∧ ∀ (W : World) (b o : Nat), Below w.heap.size w W → Cells W b o cs → SlAt R sz W b o l

def Movable {α : Type} (R : World → Nat → Nat → α → Prop) (sz : Nat) : Prop :=
  ∀ (w : World) (b p : Nat) (x : α), R w b p x → ∃ cs : List Value, cs.length = sz ∧ (∀ u ∈ cs, u.oneCell' = true) ∧ Cells w b p cs ∧ ∀ (W : World) (b' p' : Nat), Below w.heap.size w W → Cells W b' p' cs → R W b' p' x

section
variable {α : Type} {R : World → Nat → Nat → α → Prop} {sz : Nat} {w : World}

theorem Cells.left {b o : Nat} {cs ds : List Value} (h : Cells w b o (cs ++ ds)) : Cells w b o cs := fun j u hj =>
  h j u (by rw [List.getElem?_append_left (List.getElem?_eq_some_iff.1 hj).1]; exact hj)
theorem Cells.right {b o : Nat} {cs ds : List Value} (h : Cells w b o (cs ++ ds)) : Cells w b (o + cs.length) ds := fun j u hj => by
  have := h (cs.length + j) u (by rw [List.getElem?_append_right (by omega)]; simpa using hj)
  rwa [show o + cs.length + j = o + (cs.length + j) by omega]
theorem Cells.app {b o : Nat} {cs ds : List Value} (h1 : Cells w b o cs) (h2 : Cells w b (o + cs.length) ds) : Cells w b o (cs ++ ds) := fun j u hj => by
  rcases Nat.lt_or_ge j cs.length with h | h
  · rw [List.getElem?_append_left h] at hj; exact h1 j u hj
  · rw [List.getElem?_append_right h] at hj
    have := h2 (j - cs.length) u hj
    rwa [show o + cs.length + (j - cs.length) = o + j by omega] at this

theorem Means.nil : Means R sz w [] ([] : List α) := ⟨by simp, by simp, fun _ _ _ _ _ k x h => by simp at h⟩
theorem Means.app {cs ds : List Value} {l m : List α} (h1 : Means R sz w cs l) (h2 : Means R sz w ds m) : Means R sz w (cs ++ ds) (l ++ m) := by
  refine ⟨by rw [List.length_append, h1.1, h2.1, List.length_append, Nat.add_mul], ?_, ?_⟩
  · intro u hu
    rcases List.mem_append.1 hu with h | h
    · exact h1.2.1 u h
    · exact h2.2.1 u h
  · intro W b o hb hc k x hk
    rcases Nat.lt_or_ge k l.length with h | h
    · rw [List.getElem?_append_left h] at hk
      exact h1.2.2 W b o hb hc.left k x hk
    · rw [List.getElem?_append_right h] at hk
      have := h2.2.2 W b _ hb hc.right (k - l.length) x hk
      rw [h1.1] at this
      rwa [show o + l.length * sz + (k - l.length) * sz = o + k * sz by rw [Nat.add_assoc, ← Nat.add_mul]; congr 2; omega] at this

theorem SlAt.tail {b o : Nat} {x : α} {l : List α} (h : SlAt R sz w b o (x :: l)) : SlAt R sz w b (o + sz) l := fun k y hk => by
  have := h (k + 1) y (by simpa using hk)
  rwa [show o + (k + 1) * sz = o + sz + k * sz by rw [Nat.add_mul]; omega] at this

theorem means_of_at (hM : Movable R sz) {b : Nat} : ∀ (l : List α) (o : Nat), SlAt R sz w b o l → ∃ cs, Means R sz w cs l ∧ Cells w b o cs
  | [], _, _ => ⟨[], Means.nil, fun j u h => by simp at h⟩
  | x :: l, o, h => by
    obtain ⟨cs, h1, h2, h3, h4⟩ := hM w b o x (by simpa using h 0 x rfl)
    obtain ⟨ds, hd, hdc⟩ := means_of_at hM l (o + sz) h.tail
    have hx : Means R sz w cs [x] := ⟨by simp [h1], h2, fun W b' o' hb hc k y hk => by
      cases k with
      | zero => simp at hk; subst hk; simpa using h4 W b' o' hb hc
      | succ k => simp at hk⟩
    exact ⟨cs ++ ds, hx.app hd, h3.app (by rw [h1]; exact hdc)⟩

theorem means_of_sl (hM : Movable R sz) {A : Option Addr} {n c : Nat} {l : List α} (h : Sl R sz w (.slice A n c) l) : ∃ cs, Means R sz w cs l ∧ Src w A n sz cs ∧ n = l.length := by
  obtain ⟨A', c', hv, h1, h2, h3⟩ := h
  injection hv with e1 e2 e3
  subst e1 e2 e3
  cases l with
  | nil => exact ⟨[], Means.nil, Src.nil _ _ _, rfl⟩
  | cons x l =>
    obtain ⟨b, o, hA, _⟩ := h3 0 x rfl
    subst hA
    have hat : SlAt R sz w b o (x :: l) := fun k y hk => by
      obtain ⟨b', o', hA, hR⟩ := h3 k y hk
      injection hA with hA
      injection hA with e1 e2
      subst e1 e2
      exact hR
    obtain ⟨cs, hm, hc⟩ := means_of_at hM _ o hat
    exact ⟨cs, hm, ⟨hm.1, hm.2.1, fun _ => ⟨b, o, rfl, hc⟩⟩, rfl⟩

theorem sl_of_means {W : World} {base e : Nat} {v : Value} {cs : List Value} {l : List α} (hm : Means R sz w cs l) (hb : Below w.heap.size w W) (ho : W.ownsRow base e sz v l.length cs) : Sl R sz W v l := by
  obtain ⟨A, c, rfl, h1, h2, h3⟩ := ownsRow_src ho hm.2.1
  refine ⟨A, c, rfl, h1, h2, fun k x hk => ?_⟩
  obtain ⟨b, o, hA, hc⟩ := h3.2.2 (by have := (List.getElem?_eq_some_iff.1 hk).1; omega)
  exact ⟨b, o, hA, hm.2.2 W b o hb hc k x hk⟩

/-- what a list means it means in every later world -/
theorem Means.later {w' : World} {cs : List Value} {l : List α} (hm : Means R sz w cs l) (hb : Below w.heap.size w w') : Means R sz w' cs l :=
  ⟨hm.1, hm.2.1, fun W b o hW hc => hm.2.2 W b o (bel_tr hb hW) hc⟩
end

theorem valAt_movable : Movable ValAt 3 := fun w b p x ⟨h0, h1, h2⟩ =>
  ⟨[.int .i64 x.kind, .int .i64 x.num, .string x.text], rfl, by simp [Value.oneCell'], fun j u hj => by
    match j, hj with
    | 0, hj => simp at hj; subst hj; exact h0
    | 1, hj => simp at hj; subst hj; exact h1
    | 2, hj => simp at hj; subst hj; exact h2
    | j + 3, hj => simp at hj, fun W b' p' _ hc => ⟨hc 0 _ rfl, hc 1 _ rfl, hc 2 _ rfl⟩⟩

theorem sl_oneCell {α : Type} {R : World → Nat → Nat → α → Prop} {sz : Nat} {w : World} {v : Value} {l : List α} (h : Sl R sz w v l) : v.oneCell' = true := by
  obtain ⟨A, c, rfl, _⟩ := h; rfl

theorem itemAt_movable : Movable ItemAt 7 := fun w b p x ⟨v, hv, h0, h1, h2, h3, h4, h5, h6⟩ =>
  ⟨[.int .i64 x.kind, .int .i64 x.source, .int .i64 x.seq, .int .i64 x.type, .int .i64 x.time, v, .int .i64 x.number], rfl, (by
    have hv1 := sl_oneCell hv
    intro u hu
    simp only [List.mem_cons, List.not_mem_nil, or_false] at hu
    rcases hu with h | h | h | h | h | h | h <;> rw [h] <;> first | rfl | exact hv1), fun j u hj => by
    match j, hj with
    | 0, hj => simp at hj; subst hj; exact h0
    | 1, hj => simp at hj; subst hj; exact h1
    | 2, hj => simp at hj; subst hj; exact h2
    | 3, hj => simp at hj; subst hj; exact h3
    | 4, hj => simp at hj; subst hj; exact h4
    | 5, hj => simp at hj; subst hj; exact h5
    | 6, hj => simp at hj; subst hj; exact h6
    | j + 7, hj => simp at hj, fun W b' p' hb hc => ⟨v, hv.stays valAt_stays hb, hc 0 _ rfl, hc 1 _ rfl, hc 2 _ rfl, hc 3 _ rfl, hc 4 _ rfl, hc 5 _ rfl, hc 6 _ rfl⟩⟩

/-! ### rows of queues -/
def qcells : List Queue → List Value → List Value
  | q :: l, v :: vs => .int .i64 q.frm :: .int .i64 q.to :: v :: qcells l vs
  | _, _ => []

theorem qcells_length : ∀ (l : List Queue) (vs : List Value), vs.length = l.length → (qcells l vs).length = l.length * 3
  | [], [], _ => rfl
  | [], _ :: _, h => by simp at h
  | _ :: _, [], h => by simp at h
  | q :: l, v :: vs, h => by
    simp only [qcells, List.length_cons]
    rw [qcells_length l vs (by simpa using h)]
    omega

theorem qcells_get (f : Nat) : ∀ (l : List Queue) (vs : List Value) (k : Nat) (q : Queue) (v : Value), l[k]? = some q → vs[k]? = some v →
    (qcells l vs)[k * 3]? = some (.int .i64 q.frm) ∧ (qcells l vs)[k * 3 + 1]? = some (.int .i64 q.to) ∧ (qcells l vs)[k * 3 + 2]? = some v
  | [], _, k, _, _, h, _ => by simp at h
  | _ :: _, [], k, _, _, _, h => by simp at h
  | p :: l, u :: vs, 0, q, v, h1, h2 => by simp at h1 h2; subst h1 h2; simp [qcells]
  | p :: l, u :: vs, k + 1, q, v, h1, h2 => by
    have := qcells_get f l vs k q v (by simpa using h1) (by simpa using h2)
    rw [show (k + 1) * 3 = k * 3 + 3 by omega]
    simpa [qcells] using this

theorem qcells_set : ∀ (l : List Queue) (vs : List Value) (k : Nat) (v : Value), vs.length = l.length → k < l.length → (qcells l vs).set (k * 3 + 2) v = qcells l (vs.set k v)
  | [], _, k, _, _, h => by simp at h
  | _ :: _, [], k, _, h, _ => by simp at h
  | p :: l, u :: vs, 0, v, _, _ => by simp [qcells]
  | p :: l, u :: vs, k + 1, v, h, hk => by
    have := qcells_set l vs k v (by simpa using h) (by simpa using hk)
    rw [show (k + 1) * 3 + 2 = k * 3 + 2 + 3 by omega]
    simp [qcells, this]

theorem queues_cells {w : World} {b : Nat} : ∀ (l : List Queue) (o : Nat), SlAt QueueAt 3 w b o l →
    ∃ us : List Value, us.length = l.length ∧ (∀ (j : Nat) (u : Value) (q : Queue), us[j]? = some u → l[j]? = some q → IsItems w u q.items) ∧ Cells w b o (qcells l us)
  | [], _, _ => ⟨[], rfl, fun j u q h => by simp at h, fun j u h => by simp [qcells] at h⟩
  | x :: l, o, h => by
    obtain ⟨v, hv, h0, h1, h2⟩ := h 0 x rfl
    obtain ⟨us, hl, hi, hc⟩ := queues_cells l (o + 3) h.tail
    refine ⟨v :: us, by simp [hl], ?_, ?_⟩
    · intro j u q hj hq
      cases j with
      | zero => simp at hj hq; subst hj hq; exact hv
      | succ j => exact hi j u q (by simpa using hj) (by simpa using hq)
    · intro j u hj
      simp only [Nat.zero_mul, Nat.add_zero] at h0 h1 h2
      match j, hj with
      | 0, hj => simp [qcells] at hj; subst hj; exact h0
      | 1, hj => simp [qcells] at hj; subst hj; exact h1
      | 2, hj => simp [qcells] at hj; subst hj; exact h2
      | j + 3, hj =>
        have := hc j u (by simpa [qcells] using hj)
        rwa [show o + (j + 3) = o + 3 + j by omega]
end Go.Proofs.Yteonfoaemljndaa
