/- The bindings that the environment of a match yields, put together again: plain. -/
import Derived.Test.YtclpglgigpjfoaaGreatDoorMrenv
import Derived.Test.YtclpglgigpjfoaaGreatDoorMsortb
namespace Go.Proofs.YtclpglgigpjfoaaGreatDoor

theorem scan_asc : ∀ (l : List Bnd) (p : Option Bnd), scanE bndE p l = 0 → (∀ a, p = some a → ∀ b ∈ l, refsC a b < 0) ∧ l.Pairwise fun a b => refsC a b < 0
  | [], _, _ => ⟨fun _ _ _ h => by simp at h, List.Pairwise.nil⟩
  | x :: l, p, h => by
    simp only [scanE] at h
    split at h
    · next e =>
      obtain ⟨h1, h2⟩ := scan_asc l (some x) h
      have h1 := h1 x rfl
      refine ⟨fun a ha b hb => ?_, List.pairwise_cons.2 ⟨h1, h2⟩⟩
      subst ha
      have hax : refsC a x < 0 := by
        unfold bndE at e
        split at e
        · exact absurd e (by decide)
        · split at e
          · next hb => simpa [behind] using hb
          · exact absurd e (by decide)
      rcases List.mem_cons.1 hb with rfl | hb
      · exact hax
      · exact refsC_pc.lt a x b hax (h1 b hb)
    · next e => exact absurd h e
theorem mat_asc {l : List Bnd} (h : matErr l = 0) : l.Pairwise fun a b => refsC a b < 0 := by
  unfold matErr at h
  split at h
  · exact absurd h (by decide)
  · split at h
    · exact absurd h (by decide)
    · exact (scan_asc l none h).2
theorem evOf_ref {l : List Evt} {r : Bnd} {e : Evt} (h : evOf l r = some e) : refsC (eRef e) r = 0 ∧ e ∈ l := by
  unfold evOf at h
  exact ⟨by simpa using List.find?_some h, List.mem_of_find?_eq_some h⟩
theorem rec_parts {l : List Evt} {bs : List Bnd} (h : envErr l 16 bs = 0) : strErr l = 0 ∧ matErr bs = 0 ∧ ∀ b ∈ bs, (0 ≤ b.v ∧ b.v < ((16 : Nat) : Int)) ∧ (evOf l b).isSome = true := by
  have h1 : strErr l = 0 := by
    by_cases e : strErr l = 0
    · exact e
    · rw [envErr_str rfl e] at h; exact absurd h e
  have h2 : ¬ inI 16 16 = false := by decide
  have h3 : matErr bs = 0 := by
    by_cases e : matErr bs = 0
    · exact e
    · rw [envErr_mat h1 h2 rfl e] at h; exact absurd h e
  rw [envErr_scan h1 h2 h3] at h
  refine ⟨h1, h3, fun b hb => ?_⟩
  have h4 := envE1_ok (scan_const bs none h b hb)
  have h5 := bndOk_v ((mat_ok h3).2.2 b hb)
  exact ⟨by omega, h4.2⟩
def asBnd (v : Int) (e : Evt) : Bnd := ⟨v, e.tm, e.src, e.sq⟩
theorem ev_is {l : List Evt} {v : Int} : ∀ {bs : List Bnd}, (∀ b ∈ bs, (evOf l b).isSome = true) → (∀ b ∈ bs, b.v = v) → (bs.filterMap (evOf l)).map (asBnd v) = bs
  | [], _, _ => rfl
  | b :: bs, h1, h2 => by
    obtain ⟨e, he⟩ := Option.isSome_iff_exists.1 (h1 b (List.mem_cons_self ..))
    rw [List.filterMap_cons_some he, List.map_cons, ev_is (fun x hx => h1 x (List.mem_cons_of_mem _ hx)) (fun x hx => h2 x (List.mem_cons_of_mem _ hx))]
    have h3 := refsC_zero.1 (evOf_ref he).1
    have h4 := h2 b (List.mem_cons_self ..)
    unfold eRef at h3
    simp only at h3
    congr 1
    cases b
    simp only [asBnd, Bnd.mk.injEq] at h3 h4 ⊢
    exact ⟨h4.symm, h3.1, h3.2.1, h3.2.2⟩
theorem ev_asc {l : List Evt} {bs : List Bnd} (h : bs.Pairwise fun a b => refsC a b < 0) : (bs.filterMap (evOf l)).Pairwise fun a b => refsC (eRef a) (eRef b) < 0 := by
  refine List.Pairwise.filterMap (S := fun a b => refsC (eRef a) (eRef b) < 0) _ ?_ h
  intro r1 r2 hr e1 h1 e2 h2
  have k1 := (evOf_ref h1).1
  have k2 := (evOf_ref h2).1
  have q1 := refsC_pc.cong (eRef e1) r1 (eRef e2) k1
  have q2 := refsC_pc.cong (eRef e2) r2 r1 k2
  have q3 := refsC_pc.anti (eRef e2) r1
  have q4 := refsC_pc.anti r2 r1
  omega
def backL (bs : List Bnd) (n : Nat) : List Bnd := (List.range n).flatMap fun v => ofVar v bs
theorem backL_succ (bs : List Bnd) (n : Nat) : backL bs (n + 1) = backL bs n ++ ofVar n bs := by
  unfold backL
  rw [List.range_succ, List.flatMap_append]
  simp
theorem ofVar_v {bs : List Bnd} {v : Nat} : ∀ b ∈ ofVar v bs, b.v = (v : Int) := fun b hb => by
  unfold ofVar at hb
  have := (List.mem_filter.1 hb).2
  simpa using this
theorem ofVar_mem {bs : List Bnd} {v : Nat} : ∀ b ∈ ofVar v bs, b ∈ bs := fun b hb => (List.mem_filter.1 hb).1
theorem ofVar_asc {bs : List Bnd} {v : Nat} (h : bs.Pairwise fun a b => refsC a b < 0) : (ofVar v bs).Pairwise fun a b => refsC a b < 0 := h.filter _
theorem backL_len {bs : List Bnd} {n : Nat} (h : ∀ b ∈ bs, 0 ≤ b.v ∧ b.v < (n : Int)) : (backL bs n).length = bs.length := (back_perm h).length_eq

/-! ### rows of bindings -/
open Go.RowKit
def bdCells (l : List Bnd) : List Value := l.flatMap bdEnc
theorem bdCells_app (l m : List Bnd) : bdCells (l ++ m) = bdCells l ++ bdCells m := List.flatMap_append
theorem bdCells_one (l : List Bnd) : ∀ u ∈ bdCells l, u.oneCell' = true := fun u hu => by
  obtain ⟨x, _, hx⟩ := List.mem_flatMap.1 hu
  simp only [bdEnc, List.mem_cons, List.not_mem_nil, or_false] at hx
  rcases hx with rfl | rfl | rfl | rfl <;> rfl
theorem bdCells_at : ∀ {l : List Bnd} {k : Nat} {x : Bnd}, l[k]? = some x → ∀ r, r < 4 → (bdCells l)[k * 4 + r]? = (bdEnc x)[r]?
  | [], k, x, h, _, _ => by simp at h
  | y :: l, 0, x, h, r, hr => by
    simp at h; subst h
    unfold bdCells
    rw [List.flatMap_cons, Nat.zero_mul, Nat.zero_add, List.getElem?_append_left (by simpa [bdEnc] using hr)]
  | y :: l, k + 1, x, h, r, hr => by
    have ih := bdCells_at (l := l) (k := k) (x := x) (by simpa using h) r hr
    unfold bdCells at ih ⊢
    rw [List.flatMap_cons, List.getElem?_append_right (by simp [bdEnc]; omega), ← ih]
    congr 1
    simp [bdEnc]; omega
theorem bdRow_is {B : Nat} {wr : World} {av : Value} {l : List Bnd} (h : wr.ownsRow B 79 4 av l.length (bdCells l)) : IsBnds wr av l := by
  obtain ⟨A, c, rfl, h2, h3, h4⟩ := ownsRow_src h (bdCells_one l)
  refine ⟨A, c, rfl, h2, h3, fun k x hk => ?_⟩
  have hkl := (List.getElem?_eq_some_iff.1 hk).1
  obtain ⟨b, o, hA, hcs⟩ := h4.2.2 (by omega)
  refine ⟨b, o, hA, hcs _ _ ?_, ?_, ?_, ?_⟩
  · have := bdCells_at hk 0 (by decide); simpa [bdEnc] using this
  · have := bdCells_at hk 1 (by decide); rw [Nat.add_assoc]; exact hcs _ _ (by simpa [bdEnc] using this)
  · have := bdCells_at hk 2 (by decide); rw [Nat.add_assoc]; exact hcs _ _ (by simpa [bdEnc] using this)
  · have := bdCells_at hk 3 (by decide); rw [Nat.add_assoc]; exact hcs _ _ (by simpa [bdEnc] using this)
end Go.Proofs.YtclpglgigpjfoaaGreatDoor
