/- The text of a match, by names of its variables, is different for different matches where the names differ. -/
import Derived.Test.YtclpglgigpjfoaaDoorLkey
namespace Go.Proofs.YtclpglgigpjfoaaDoor
open Go.Lib

theorem itoa_chars (n : Int) : ∀ c ∈ itoa n, c = 45 ∨ (48 ≤ c.toNat ∧ c.toNat ≤ 57) := by
  intro c hc
  unfold itoa at hc
  split at hc
  · rcases List.mem_cons.1 hc with rfl | hc
    · exact .inl rfl
    · exact .inr (dec_range _ c hc)
  · exact .inr (dec_range _ c hc)
theorem itoa_no (n : Int) (d : UInt8) (h1 : d ≠ 45) (h2 : d.toNat < 48 ∨ 57 < d.toNat) : ∀ c ∈ itoa n, c ≠ d := by
  rintro c hc rfl
  rcases itoa_chars n c hc with h | h
  · exact h1 h
  · omega
theorem cutAt {d : UInt8} {a b s t : List UInt8} (ha : ∀ c ∈ a, c ≠ d) (hb : ∀ c ∈ b, c ≠ d) (h : a ++ d :: s = b ++ d :: t) : a = b ∧ s = t := by
  induction a generalizing b with
  | nil =>
    cases b with
    | nil => simpa using h
    | cons y b => simp at h; exact absurd h.1.symm (hb y (List.mem_cons_self ..))
  | cons x a ih =>
    cases b with
    | nil => simp at h; exact absurd h.1 (ha x (List.mem_cons_self ..))
    | cons y b =>
      simp only [List.cons_append, List.cons.injEq] at h
      obtain ⟨h1, h2⟩ := ih (fun c hc => ha c (List.mem_cons_of_mem _ hc)) (fun c hc => hb c (List.mem_cons_of_mem _ hc)) h.2
      exact ⟨by rw [h.1, h1], h2⟩
/-- the text of a binding; the text of a match; nm: the name of a variable -/
def refT (b : Bnd) : List UInt8 := itoa b.t ++ 47 :: (itoa b.s ++ 47 :: itoa b.n)
def bndT (nm : Int → List UInt8) (b : Bnd) : List UInt8 := nm b.v ++ 64 :: refT b
def joinT : List (List UInt8) → List UInt8
  | [] => []
  | [x] => x
  | x :: y :: l => x ++ 32 :: joinT (y :: l)
def matT (nm : Int → List UInt8) (l : List Bnd) : List UInt8 := joinT (l.map (bndT nm))
/-- names that tell variables apart, without spaces and without the sign before a Ref -/
structure Names (nm : Int → List UInt8) (ok : Int → Prop) : Prop where
  at_ : ∀ v, ok v → ∀ c ∈ nm v, c ≠ 64
  sp : ∀ v, ok v → ∀ c ∈ nm v, c ≠ 32
  inj : ∀ v u, ok v → ok u → nm v = nm u → v = u
theorem refT_inj {a b : Bnd} (h : refT a = refT b) : a.t = b.t ∧ a.s = b.s ∧ a.n = b.n := by
  unfold refT at h
  have h47 : ∀ n : Int, ∀ c ∈ itoa n, c ≠ 47 := fun n => itoa_no n 47 (by decide) (by decide)
  obtain ⟨h1, h2⟩ := cutAt (h47 _) (h47 _) h
  obtain ⟨h3, h4⟩ := cutAt (h47 _) (h47 _) h2
  exact ⟨itoa_inj h1, itoa_inj h3, itoa_inj h4⟩
theorem bndT_inj {nm : Int → List UInt8} {ok : Int → Prop} (hn : Names nm ok) {a b : Bnd} (ha : ok a.v) (hb : ok b.v) (h : bndT nm a = bndT nm b) : a = b := by
  unfold bndT at h
  obtain ⟨h1, h2⟩ := cutAt (hn.at_ _ ha) (hn.at_ _ hb) h
  obtain ⟨h3, h4, h5⟩ := refT_inj h2
  have h6 := hn.inj _ _ ha hb h1
  cases a; cases b
  simp only [Bnd.mk.injEq]
  exact ⟨h6, h3, h4, h5⟩
theorem bndT_sp {nm : Int → List UInt8} {ok : Int → Prop} (hn : Names nm ok) {a : Bnd} (ha : ok a.v) : ∀ c ∈ bndT nm a, c ≠ 32 := by
  have h32 : ∀ n : Int, ∀ c ∈ itoa n, c ≠ 32 := itoa_ne32
  intro c hc
  unfold bndT refT at hc
  simp only [List.mem_append, List.mem_cons] at hc
  rcases hc with h | rfl | h | rfl | h | rfl | h
  · exact hn.sp _ ha c h
  · decide
  · exact h32 _ c h
  · decide
  · exact h32 _ c h
  · decide
  · exact h32 _ c h
theorem bndT_ne {nm : Int → List UInt8} (a : Bnd) : bndT nm a ≠ [] := by unfold bndT; simp
theorem joinT_inj : ∀ {xs ys : List (List UInt8)}, (∀ x ∈ xs, x ≠ [] ∧ ∀ c ∈ x, c ≠ 32) → (∀ y ∈ ys, y ≠ [] ∧ ∀ c ∈ y, c ≠ 32) → joinT xs = joinT ys → xs = ys
  | [], [], _, _, _ => rfl
  | [], [y], _, hy, h => absurd h.symm (hy y (by simp)).1
  | [x], [], hx, _, h => absurd h (hx x (by simp)).1
  | [], y :: z :: l, _, _, h => by simp [joinT] at h
  | x :: z :: l, [], _, _, h => by simp [joinT] at h
  | [x], [y], _, _, h => by simp only [joinT] at h; rw [h]
  | [x], y :: z :: l, hx, _, h => by
    simp only [joinT] at h
    exact absurd rfl ((hx x (by simp)).2 32 (by rw [h]; simp))
  | x :: z :: l, [y], _, hy, h => by
    simp only [joinT] at h
    exact absurd rfl ((hy y (by simp)).2 32 (by rw [← h]; simp))
  | x :: x2 :: l, y :: y2 :: m, hx, hy, h => by
    simp only [joinT] at h
    obtain ⟨h1, h2⟩ := cutAt (hx x (by simp)).2 (hy y (by simp)).2 h
    rw [h1, joinT_inj (fun c hc => hx c (List.mem_cons_of_mem _ hc)) (fun c hc => hy c (List.mem_cons_of_mem _ hc)) h2]
theorem map_inj_on {α β : Type} {f : α → β} : ∀ {l m : List α}, (∀ a ∈ l, ∀ b ∈ m, f a = f b → a = b) → l.map f = m.map f → l = m
  | [], [], _, _ => rfl
  | [], _ :: _, _, h => by simp at h
  | _ :: _, [], _, h => by simp at h
  | a :: l, b :: m, hf, h => by
    simp only [List.map_cons, List.cons.injEq] at h
    rw [hf a (List.mem_cons_self ..) b (List.mem_cons_self ..) h.1, map_inj_on (fun x hx y hy => hf x (List.mem_cons_of_mem _ hx) y (List.mem_cons_of_mem _ hy)) h.2]
theorem matT_inj {nm : Int → List UInt8} {ok : Int → Prop} (hn : Names nm ok) {l m : List Bnd} (hl : ∀ b ∈ l, ok b.v) (hm : ∀ b ∈ m, ok b.v) (h : matT nm l = matT nm m) : l = m := by
  have side : ∀ {k : List Bnd}, (∀ b ∈ k, ok b.v) → ∀ x ∈ k.map (bndT nm), x ≠ [] ∧ ∀ c ∈ x, c ≠ 32 := fun hk x hx => by
    obtain ⟨b, hb, rfl⟩ := List.mem_map.1 hx
    exact ⟨bndT_ne b, bndT_sp hn (hk b hb)⟩
  exact map_inj_on (fun a ha b hb e => bndT_inj hn (hl a ha) (hm b hb) e) (joinT_inj (side hl) (side hm) h)
/-- the names of the law MatchNames -/
def lawN (v : Int) : List UInt8 := [118, UInt8.ofNat (97 + v.toNat)]
theorem lawN_ok : Names lawN fun v => 0 ≤ v ∧ v < 16 := by
  have hv : ∀ v : Int, 0 ≤ v ∧ v < 16 → (UInt8.ofNat (97 + v.toNat)).toNat = 97 + v.toNat := fun v h => by rw [UInt8.toNat_ofNat']; omega
  refine ⟨fun v h c hc e => ?_, fun v h c hc e => ?_, fun v u h1 h2 e => ?_⟩
  · have := hv v h
    simp only [lawN, List.mem_cons, List.not_mem_nil, or_false] at hc
    rcases hc with h3 | h3
    · rw [h3] at e; exact absurd e (by decide)
    · rw [← h3, e] at this; simp at this; omega
  · have := hv v h
    simp only [lawN, List.mem_cons, List.not_mem_nil, or_false] at hc
    rcases hc with h3 | h3
    · rw [h3] at e; exact absurd e (by decide)
    · rw [← h3, e] at this; simp at this; omega
  · simp only [lawN, List.cons.injEq, and_true, true_and] at e
    have a := hv v h1
    have b := hv u h2
    rw [e] at a
    omega
end Go.Proofs.YtclpglgigpjfoaaDoor
