/- Names: which texts are keywords, and which are names; plain laws, no program in sight. -/
import Derived.Lib.IndexMore
namespace Go.Proofs.YtclpglgigpjfoaaGreatDoor
open Go.Lib

/-- the keywords -/
def kws : List (List UInt8) := [[97, 108, 108], [97, 108, 116], [97, 110, 100], [98, 111, 111, 108], [98, 121], [99, 111, 117, 110, 116], [102, 97, 108, 115, 101], [102, 105, 114, 115, 116], [105, 102], [105, 110, 116], [108, 97, 99, 107, 115], [108, 97, 115, 116], [109, 97, 116, 99, 104], [109, 97, 120], [109, 105, 110], [110, 111, 116], [111, 114], [112, 108, 117, 115], [113, 117, 101, 114, 121], [114, 101, 116, 117, 114, 110], [115, 101, 113], [115, 116, 114, 105, 110, 103], [115, 117, 109], [116, 105, 109, 101], [116, 114, 117, 101], [116, 121, 112, 101], [119, 104, 101, 114, 101], [119, 105, 116, 104, 105, 110]]
def kwText : List UInt8 := 32 :: kws.flatMap fun x => x ++ [32]
def kwB (s : List UInt8) : Bool := decide (s ∈ kws)
def letB (c : UInt8) : Bool := c == 95 || (decide (97 ≤ c) && decide (c ≤ 122)) || (decide (65 ≤ c) && decide (c ≤ 90))
def digB (c : UInt8) : Bool := decide (48 ≤ c) && decide (c ≤ 57)
def wordB (c : UInt8) : Bool := letB c || digB c
def headL (s : List UInt8) : Bool := match s with
  | [] => false
  | c :: _ => letB c
/-- the error of a name -/
def nameE (s : List UInt8) : Int := if s ≠ [] ∧ s.length ≤ 24 ∧ headL s = true ∧ s.all wordB = true ∧ kwB s = false then 0 else 8

theorem contains_iff (s sub : List UInt8) : contains s sub = true ↔ ∃ a b, s = a ++ sub ++ b := by
  unfold contains
  rw [decide_eq_true_eq]
  constructor
  · intro h
    rcases index_spec s sub with ⟨h1, _⟩ | ⟨i, h1, h2, h3, _⟩
    · omega
    · unfold occAt at h3
      rw [List.isPrefixOf_iff_prefix] at h3
      obtain ⟨b, hb⟩ := h3
      exact ⟨s.take i, b, by rw [List.append_assoc, hb, List.take_append_drop]⟩
  · rintro ⟨a, b, rfl⟩
    rcases index_spec (a ++ sub ++ b) sub with ⟨_, h2⟩ | ⟨i, h1, _, _, _⟩
    · have := h2 a.length (by simp)
      unfold occAt at this
      rw [List.append_assoc, List.drop_left] at this
      rw [Bool.eq_false_iff] at this
      exact absurd (List.isPrefixOf_iff_prefix.2 ⟨b, rfl⟩) this
    · omega
theorem cut32 {a s X Y : List UInt8} (ha : ∀ c ∈ a, c ≠ 32) (h : a ++ 32 :: X = s ++ 32 :: Y) : ∃ r, s = a ++ r := by
  induction a generalizing s with
  | nil => exact ⟨s, rfl⟩
  | cons x a ih =>
    cases s with
    | nil => simp at h; exact absurd h.1 (ha x (List.mem_cons_self ..))
    | cons y s =>
      simp only [List.cons_append, List.cons.injEq] at h
      obtain ⟨r, hr⟩ := ih (fun c hc => ha c (List.mem_cons_of_mem _ hc)) h.2
      exact ⟨r, by rw [h.1, hr]; rfl⟩
theorem kw_in {s : List UInt8} (hs : ∀ c ∈ s, c ≠ 32) : ∀ ws : List (List UInt8), (∀ x ∈ ws, ∀ c ∈ x, c ≠ 32) →
    ((∃ a b, (32 : UInt8) :: ws.flatMap (fun x => x ++ [32]) = a ++ (32 :: (s ++ [32])) ++ b) ↔ s ∈ ws)
  | [], _ => by
    constructor
    · rintro ⟨a, b, h⟩
      have := congrArg List.length h
      simp at this
      omega
    · intro h; simp at h
  | x :: ws, hw => by
    have hx := hw x (List.mem_cons_self ..)
    have ih := kw_in hs ws fun y hy => hw y (List.mem_cons_of_mem _ hy)
    have e0 : (32 : UInt8) :: (x :: ws).flatMap (fun x => x ++ [32]) = 32 :: (x ++ (32 :: ws.flatMap (fun x => x ++ [32]))) := by simp
    rw [e0, List.mem_cons, ← ih]
    constructor
    · rintro ⟨a, b, h⟩
      cases a with
      | nil =>
        simp only [List.nil_append, List.cons_append, List.cons.injEq, true_and, List.append_assoc] at h
        obtain ⟨r, hr⟩ := cut32 hx h
        obtain ⟨r2, hr2⟩ := cut32 hs h.symm
        have h1 := congrArg List.length hr
        have h2 := congrArg List.length hr2
        simp only [List.length_append] at h1 h2
        have : r = [] := List.eq_nil_of_length_eq_zero (by omega)
        subst this
        exact .inl (by simpa using hr)
      | cons c a =>
        simp only [List.cons_append, List.cons.injEq, List.append_assoc] at h
        obtain ⟨-, h⟩ := h
        obtain ⟨r, hr⟩ := cut32 hx h
        subst hr
        rw [List.append_assoc] at h
        have h' := List.append_cancel_left h
        exact .inr ⟨r, b, by rw [h']; simp⟩
    · rintro (rfl | ⟨a, b, h⟩)
      · exact ⟨[], ws.flatMap (fun x => x ++ [32]), by simp⟩
      · exact ⟨32 :: (x ++ a), b, by rw [h]; simp⟩
theorem kws_32 : ∀ x ∈ kws, ∀ c ∈ x, c ≠ 32 := by decide
theorem kws_word : ∀ x ∈ kws, x ≠ [] := by decide
theorem has32 (s : List UInt8) : contains s [32] = true ↔ 32 ∈ s := by
  rw [contains_iff]
  constructor
  · rintro ⟨a, b, rfl⟩; simp
  · intro h
    obtain ⟨a, b, rfl⟩ := List.append_of_mem h
    exact ⟨a, b, by simp⟩
/-- the program's way to find a keyword -/
theorem kw_is (s : List UInt8) : (decide (s ≠ []) && (!contains s [32] && contains kwText (32 :: (s ++ [32])))) = kwB s := by
  unfold kwB
  by_cases h : s ∈ kws
  · have h32 := kws_32 s h
    have h1 : contains s [32] = false := by
      rw [Bool.eq_false_iff]
      intro e
      exact h32 32 ((has32 s).1 e) rfl
    have h2 : contains kwText (32 :: (s ++ [32])) = true := (contains_iff _ _).2 ((kw_in h32 kws kws_32).2 h)
    simp [h, h1, h2, kws_word s h]
  · by_cases h1 : contains s [32] = true
    · simp [h, h1]
    · have h2 : contains kwText (32 :: (s ++ [32])) = false := by
        rw [Bool.eq_false_iff]
        intro e
        refine h ((kw_in (fun c hc e1 => h1 ((has32 s).2 (e1 ▸ hc))) kws kws_32).1 ?_)
        exact (contains_iff _ _).1 e
      simp [h, h2]
/-- the program's way to check a name: the first byte is no digit, and all bytes are letters or digits -/
theorem letB_digB (c : UInt8) (hc : letB c = true) : digB c = false := by
  unfold letB digB at *
  simp only [Bool.or_eq_true, Bool.and_eq_true, beq_iff_eq, decide_eq_true_eq, Bool.and_eq_false_iff, decide_eq_false_iff_not, UInt8.le_iff_toNat_le] at *
  rcases hc with (rfl | hc) | hc
  · simp
  · simp at *; omega
  · simp at *; omega
theorem head_is {c : UInt8} {s : List UInt8} (h : wordB c = true) : headL (c :: s) = !digB c := by
  show letB c = !digB c
  unfold wordB at h
  cases hl : letB c
  · rw [hl] at h
    have h : digB c = true := by simpa using h
    rw [h]; rfl
  · rw [letB_digB c hl]; rfl
end Go.Proofs.YtclpglgigpjfoaaGreatDoor
