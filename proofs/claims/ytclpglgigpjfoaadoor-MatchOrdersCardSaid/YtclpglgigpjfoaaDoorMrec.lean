/- Plain laws of environments: the bindings of a match, put together again from its variables, are those of the match. -/
import Derived.Test.YtclpglgigpjfoaaDoorLplain
namespace Go.Proofs.YtclpglgigpjfoaaDoor

/-- a list that is in order, and that has the members of an ascending one, is that one -/
theorem asc_perm {α : Type} {c : α → α → Int} : ∀ {S l : List α}, S.Perm l → S.Pairwise (fun a b => ¬ c b a < 0) → l.Pairwise (fun a b => c a b < 0) → S = l
  | S, [], hp, _, _ => List.Perm.eq_nil hp
  | [], _ :: _, hp, _, _ => absurd hp.length_eq (by simp)
  | x :: S, b :: l, hp, hs, hl => by
    obtain ⟨s1, s2⟩ := List.pairwise_cons.1 hs
    obtain ⟨l1, l2⟩ := List.pairwise_cons.1 hl
    by_cases e : x = b
    · subst e
      rw [asc_perm ((List.perm_cons x).1 hp) s2 l2]
    · have hx : x ∈ b :: l := hp.mem_iff.1 (List.mem_cons_self ..)
      have hb : b ∈ x :: S := hp.mem_iff.2 (List.mem_cons_self ..)
      rcases List.mem_cons.1 hx with h | h
      · exact absurd h e
      · rcases List.mem_cons.1 hb with h2 | h2
        · exact absurd h2.symm e
        · exact absurd (l1 x h) (s1 b h2)
/-- the bindings of a variable -/
def ofVar (v : Nat) (bs : List Bnd) : List Bnd := bs.filter fun b => b.v == (v : Int)
theorem part_perm : ∀ (n : Nat) (bs : List Bnd), ((List.range n).flatMap fun v => ofVar v bs).Perm (bs.filter fun b => decide (0 ≤ b.v ∧ b.v < n))
  | 0, bs => by
    have : bs.filter (fun b => decide (0 ≤ b.v ∧ b.v < ((0 : Nat) : Int))) = [] := by
      rw [List.filter_eq_nil_iff]
      intro a _ h
      have := of_decide_eq_true h
      omega
    rw [this]; exact List.Perm.refl _
  | n + 1, bs => by
    rw [List.range_succ, List.flatMap_append]
    simp only [List.flatMap_cons, List.flatMap_nil, List.append_nil]
    refine ((part_perm n bs).append_right _).trans ?_
    clear part_perm
    induction bs with
    | nil => exact List.Perm.refl _
    | cons b bs ih =>
      unfold ofVar at ih ⊢
      by_cases h1 : 0 ≤ b.v ∧ b.v < (n : Int)
      · have h2 : ¬ (b.v == (n : Int)) = true := by simp; omega
        have h3 : 0 ≤ b.v ∧ b.v < ((n + 1 : Nat) : Int) := by omega
        rw [List.filter_cons_of_pos (p := fun b : Bnd => decide (0 ≤ b.v ∧ b.v < (n : Int))) (by simpa using h1), List.filter_cons_of_neg (p := fun b : Bnd => b.v == (n : Int)) h2, List.filter_cons_of_pos (p := fun b : Bnd => decide (0 ≤ b.v ∧ b.v < ((n + 1 : Nat) : Int))) (by simpa using h3), List.cons_append]
        exact ih.cons b
      · by_cases h2 : b.v = (n : Int)
        · have h3 : 0 ≤ b.v ∧ b.v < ((n + 1 : Nat) : Int) := by omega
          rw [List.filter_cons_of_neg (p := fun b : Bnd => decide (0 ≤ b.v ∧ b.v < (n : Int))) (by simpa using h1), List.filter_cons_of_pos (p := fun b : Bnd => b.v == (n : Int)) (by simpa using h2), List.filter_cons_of_pos (p := fun b : Bnd => decide (0 ≤ b.v ∧ b.v < ((n + 1 : Nat) : Int))) (by simpa using h3)]
          exact List.perm_middle.trans (ih.cons b)
        · have h3 : ¬ (0 ≤ b.v ∧ b.v < ((n + 1 : Nat) : Int)) := by omega
          rw [List.filter_cons_of_neg (p := fun b : Bnd => decide (0 ≤ b.v ∧ b.v < (n : Int))) (by simpa using h1), List.filter_cons_of_neg (p := fun b : Bnd => b.v == (n : Int)) (by simpa using h2), List.filter_cons_of_neg (p := fun b : Bnd => decide (0 ≤ b.v ∧ b.v < ((n + 1 : Nat) : Int))) (by simpa using h3)]
          exact ih
theorem back_perm {n : Nat} {bs : List Bnd} (h : ∀ b ∈ bs, 0 ≤ b.v ∧ b.v < (n : Int)) : ((List.range n).flatMap fun v => ofVar v bs).Perm bs := by
  have h1 := part_perm n bs
  rw [List.filter_eq_self.2 (fun b hb => by simpa using h b hb)] at h1
  exact h1
theorem bnd_asc {bs : List Bnd} (h : bs.Pairwise fun a b => refsC a b < 0) : bs.Pairwise fun a b => bndC a b < 0 :=
  h.imp fun h1 => by unfold bndC orI; split <;> omega
/-- sorting what has been put together yields the match -/
theorem back_is {n : Nat} {bs S : List Bnd} (hv : ∀ b ∈ bs, 0 ≤ b.v ∧ b.v < (n : Int)) (ha : bs.Pairwise fun a b => refsC a b < 0) (hp : S.Perm ((List.range n).flatMap fun v => ofVar v bs)) (hs : S.Pairwise fun a b => ¬ bndC b a < 0) : S = bs :=
  asc_perm (hp.trans (back_perm hv)) hs (bnd_asc ha)
end Go.Proofs.YtclpglgigpjfoaaDoor
