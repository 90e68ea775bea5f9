/- The text of a query and a match, by decimal numbers with spaces between them, is different for different queries and matches. -/
import Derived.Test.YtclpglgigpjfoaaDoorLplain
import Derived.Lib.ItoaNum
namespace Go.Proofs.YtclpglgigpjfoaaDoor
open Go.Lib

theorem dec_range (u : Nat) : ∀ c ∈ decDigits u, 48 ≤ c.toNat ∧ c.toNat ≤ 57 := by
  induction u using Nat.strongRecOn with
  | _ u ih =>
    intro c hc
    rw [decDigits] at hc
    split at hc
    · simp only [List.mem_singleton] at hc; subst hc
      rw [UInt8.toNat_ofNat']; omega
    · rcases List.mem_append.1 hc with hc | hc
      · exact ih _ (by omega) c hc
      · simp only [List.mem_singleton] at hc; subst hc
        rw [UInt8.toNat_ofNat']; omega
theorem dec_ne (u : Nat) : decDigits u ≠ [] := by
  rw [decDigits]
  split <;> simp
def valD (l : List UInt8) : Nat := l.foldl (fun a c => 10 * a + (c.toNat - 48)) 0
theorem valD_dec (u : Nat) : valD (decDigits u) = u := by
  induction u using Nat.strongRecOn with
  | _ u ih =>
    rw [decDigits]
    split
    · simp only [valD, List.foldl_cons, List.foldl_nil]; rw [UInt8.toNat_ofNat']; omega
    · have h := ih (u / 10) (by omega)
      simp only [valD, List.foldl_append, List.foldl_cons, List.foldl_nil] at *
      rw [h, UInt8.toNat_ofNat']
      omega
theorem dec_inj {u v : Nat} (h : decDigits u = decDigits v) : u = v := by rw [← valD_dec u, h, valD_dec]
theorem itoa_inj {m n : Int} (h : itoa m = itoa n) : m = n := by
  have hd : ∀ u v : Nat, (45 : UInt8) :: decDigits u ≠ decDigits v := fun u v e => by
    have := dec_range v 45 (by rw [← e]; exact List.mem_cons_self ..)
    simp at this
  unfold itoa at h
  split at h
  · split at h
    · have := dec_inj (List.cons.inj h).2; omega
    · exact absurd h (hd _ _)
  · split at h
    · exact absurd h.symm (hd _ _)
    · have := dec_inj h; omega
theorem itoa_ne32 (n : Int) : ∀ c ∈ itoa n, c ≠ 32 := by
  have hd : ∀ u : Nat, ∀ c ∈ decDigits u, c ≠ 32 := fun u c hc e => by
    have := dec_range u c hc
    subst e
    simp at this
  intro c hc
  unfold itoa at hc
  split at hc
  · rcases List.mem_cons.1 hc with rfl | hc
    · decide
    · exact hd _ c hc
  · exact hd _ c hc
theorem cutK32 {a b s t : List UInt8} (ha : ∀ c ∈ a, c ≠ 32) (hb : ∀ c ∈ b, c ≠ 32) (hs : s = [] ∨ ∃ r, s = 32 :: r) (ht : t = [] ∨ ∃ r, t = 32 :: r) (h : a ++ s = b ++ t) : a = b ∧ s = t := by
  induction a generalizing b with
  | nil =>
    cases b with
    | nil => exact ⟨rfl, h⟩
    | cons y b =>
      rcases hs with rfl | ⟨r, rfl⟩
      · simp at h
      · simp at h; exact absurd h.1.symm (hb y (List.mem_cons_self ..))
  | cons x a ih =>
    cases b with
    | nil =>
      rcases ht with rfl | ⟨r, rfl⟩
      · simp at h
      · simp at h; exact absurd h.1 (ha x (List.mem_cons_self ..))
    | cons y b =>
      simp only [List.cons_append, List.cons.injEq] at h
      obtain ⟨h1, h2⟩ := ih (fun c hc => ha c (List.mem_cons_of_mem _ hc)) (fun c hc => hb c (List.mem_cons_of_mem _ hc)) h.2
      exact ⟨by rw [h.1, h1], h2⟩
def numsT : List Int → List UInt8
  | [] => []
  | n :: l => 32 :: (itoa n ++ numsT l)
theorem numsT_head (l : List Int) : numsT l = [] ∨ ∃ r, numsT l = 32 :: r := by
  cases l with
  | nil => exact .inl rfl
  | cons n l => exact .inr ⟨_, rfl⟩
theorem numsT_inj : ∀ {l m : List Int}, numsT l = numsT m → l = m
  | [], [], _ => rfl
  | [], _ :: _, h => by simp [numsT] at h
  | _ :: _, [], h => by simp [numsT] at h
  | a :: l, b :: m, h => by
    simp only [numsT, List.cons.injEq, true_and] at h
    obtain ⟨h1, h2⟩ := cutK32 (itoa_ne32 a) (itoa_ne32 b) (numsT_head l) (numsT_head m) h
    rw [itoa_inj h1, numsT_inj h2]
theorem numsT_app (l m : List Int) : numsT (l ++ m) = numsT l ++ numsT m := by
  induction l with
  | nil => rfl
  | cons n l ih => simp only [List.cons_append, numsT, ih, List.append_assoc]
def flatB : List Bnd → List Int
  | [] => []
  | b :: l => b.v :: b.t :: b.s :: b.n :: flatB l
theorem flatB_inj : ∀ {l m : List Bnd}, flatB l = flatB m → l = m
  | [], [], _ => rfl
  | [], _ :: _, h => by simp [flatB] at h
  | _ :: _, [], h => by simp [flatB] at h
  | ⟨a1, a2, a3, a4⟩ :: l, ⟨b1, b2, b3, b4⟩ :: m, h => by
    simp only [flatB, List.cons.injEq] at h
    obtain ⟨h1, h2, h3, h4, h5⟩ := h
    rw [h1, h2, h3, h4, flatB_inj h5]
theorem flatB_app (l m : List Bnd) : flatB (l ++ m) = flatB l ++ flatB m := by
  induction l with
  | nil => rfl
  | cons n l ih => simp only [List.cons_append, flatB, ih]
/-- the text of a query and a match -/
def keyT (q : Int) (bs : List Bnd) : List UInt8 := itoa q ++ numsT (flatB bs)
theorem keyT_inj {q p : Int} {bs cs : List Bnd} (h : keyT q bs = keyT p cs) : q = p ∧ bs = cs := by
  obtain ⟨h1, h2⟩ := cutK32 (itoa_ne32 q) (itoa_ne32 p) (numsT_head _) (numsT_head _) h
  exact ⟨itoa_inj h1, flatB_inj (numsT_inj h2)⟩
theorem dec_len (u : Nat) (h : u < 10 ^ 19) : (decDigits u).length ≤ 19 := by
  have : ∀ (k u : Nat), u < 10 ^ (k + 1) → (decDigits u).length ≤ k + 1 := by
    intro k
    induction k with
    | zero => intro u hu; rw [decDigits, dif_pos (by omega)]; simp
    | succ k ih =>
      intro u hu
      rw [decDigits]
      split
      · simp
      · have := ih (u / 10) (by rw [Nat.pow_succ] at hu; omega)
        simp only [List.length_append, List.length_cons, List.length_nil]; omega
  exact this 18 u h
theorem itoa_len (n : Int) (h0 : -9223372036854775808 ≤ n) (h1 : n ≤ 9223372036854775807) : (itoa n).length ≤ 20 := by
  unfold itoa
  split
  · have := dec_len n.natAbs (by omega); simp only [List.length_cons]; omega
  · have := dec_len n.toNat (by omega); omega
end Go.Proofs.YtclpglgigpjfoaaDoor
