/- Plain laws of projecting: a model of the projection can be extended. -/
import Derived.Test.YtgecbjjcjemcgaaDclosure
import Derived.Test.YtgecbjjcjemcgaaDproj
namespace Go.Proofs.Ytgecbjjcjemcgaa
open Go.RowKit

/-- the place of the i-th other unknown -/
def plc (u i : Nat) : Nat := if u ≤ i then i + 1 else i
theorem renum_plc {u x : Nat} (h : x ≠ u) : plc u (renum u x).toNat = x ∧ 0 ≤ renum (u : Int) x := by
  unfold plc renum
  split <;> split <;> omega
theorem plc_ne (u i : Nat) : plc u i ≠ u := by unfold plc; split <;> omega
theorem plc_lt {u i n : Nat} (hu : u < n) (hi : i < n - 1) : plc u i < n := by unfold plc; split <;> omega

/-- a list of values satisfies the projection exactly if each place's values satisfy the tightest bounds -/
theorem proj_sat {u : Nat} {E : List Bd} (hE : ∀ b ∈ E, 0 ≤ b.x ∧ 0 ≤ b.y) {vs : List Int} {f : Nat → Int} (hf : ∀ i, f (plc u i) = gd vs i) :
    satE (gd vs) ((projL u E).map ed) ↔ ∀ b ∈ E, b.x ≠ u → b.y ≠ u → f b.x.toNat - f b.y.toNat ≤ b.most := by
  constructor
  · intro h b hb hx hy
    obtain ⟨h0, h1⟩ := hE b hb
    have hm : ed (reBd u b) ∈ (projL u E).map ed := List.mem_map_of_mem (List.mem_map_of_mem (List.mem_filter.2 ⟨hb, by simp [offU, hx, hy]⟩))
    have h2 := h _ hm
    obtain ⟨x, y, m⟩ := b
    simp only at h0 h1 hx hy ⊢
    obtain ⟨X, rfl⟩ := Int.eq_ofNat_of_zero_le h0
    obtain ⟨Y, rfl⟩ := Int.eq_ofNat_of_zero_le h1
    have ex := (renum_plc (u := u) (x := X) (by omega)).1
    have ey := (renum_plc (u := u) (x := Y) (by omega)).1
    simp only [ed, reBd] at h2
    rw [← hf, ← hf, ex, ey] at h2
    simpa using h2
  · intro h e he
    obtain ⟨c, hc, rfl⟩ := List.mem_map.1 he
    obtain ⟨b, hb, rfl⟩ := List.mem_map.1 hc
    obtain ⟨hb1, hb2⟩ := List.mem_filter.1 hb
    simp only [offU, Bool.and_eq_true, bne_iff_ne] at hb2
    obtain ⟨h0, h1⟩ := hE b hb1
    have h2 := h b hb1 hb2.1 hb2.2
    obtain ⟨x, y, m⟩ := b
    simp only at h0 h1 hb2 h2
    obtain ⟨X, rfl⟩ := Int.eq_ofNat_of_zero_le h0
    obtain ⟨Y, rfl⟩ := Int.eq_ofNat_of_zero_le h1
    have ex := (renum_plc (u := u) (x := X) (by omega)).1
    have ey := (renum_plc (u := u) (x := Y) (by omega)).1
    simp only [ed, reBd]
    rw [← hf, ← hf, ex, ey]
    simpa using h2

/-- there is a least of some bounds, not above M -/
theorem least_of (M : Int) (g : Nat → Option Int) : ∀ n, ∃ t, t ≤ M ∧ (∀ j d, j < n → g j = some d → t ≤ d) ∧ (t = M ∨ ∃ j, j < n ∧ g j = some t) := by
  intro n
  induction n with
  | zero => exact ⟨M, Int.le_refl _, fun _ _ h => absurd h (by omega), .inl rfl⟩
  | succ n ih =>
    obtain ⟨t, h1, h2, h3⟩ := ih
    cases hg : g n with
    | none =>
      refine ⟨t, h1, fun j d hj hd => ?_, ?_⟩
      · by_cases e : j = n
        · subst e; rw [hg] at hd; cases hd
        · exact h2 j d (by omega) hd
      · rcases h3 with h3 | ⟨j, hj, hd⟩
        · exact .inl h3
        · exact .inr ⟨j, by omega, hd⟩
    | some d0 =>
      by_cases hle : d0 ≤ t
      · refine ⟨d0, by omega, fun j d hj hd => ?_, .inr ⟨n, by omega, hg⟩⟩
        by_cases e : j = n
        · subst e; rw [hg] at hd; injection hd with hd; omega
        · have := h2 j d (by omega) hd; omega
      · refine ⟨t, h1, fun j d hj hd => ?_, ?_⟩
        · by_cases e : j = n
          · subst e; rw [hg] at hd; injection hd with hd; omega
          · exact h2 j d (by omega) hd
        · rcases h3 with h3 | ⟨j, hj, hd⟩
          · exact .inl h3
          · exact .inr ⟨j, by omega, hd⟩
theorem most_of (g : Nat → Option Int) : ∀ n, ∃ M, ∀ j d, j < n → g j = some d → d ≤ M := by
  intro n
  induction n with
  | zero => exact ⟨0, fun _ _ h => absurd h (by omega)⟩
  | succ n ih =>
    obtain ⟨M, hM⟩ := ih
    cases hg : g n with
    | none =>
      refine ⟨M, fun j d hj hd => ?_⟩
      by_cases e : j = n
      · subst e; rw [hg] at hd; cases hd
      · exact hM j d (by omega) hd
    | some d0 =>
      refine ⟨max M d0, fun j d hj hd => ?_⟩
      by_cases e : j = n
      · subst e; rw [hg] at hd; injection hd with hd; omega
      · have := hM j d (by omega) hd; omega

section
variable {n : Nat} {es : List Ed} (hok : okE n es) {val : Nat → Int} (hv : satE val es)
include hok hv
/-- the tightest bounds obey the triangle inequality -/
theorem tight_tri {x y z : Nat} (hx : x < n) (hy : y < n) (hz : z < n) {a b : Int} (h1 : tight n es x y = some a) (h2 : tight n es y z = some b) : ∃ c, tight n es x z = some c ∧ c ≤ a + b := by
  obtain ⟨⟨p, hp, hpw⟩, -⟩ := (tight_least hok hv hx hy).1 a h1
  obtain ⟨⟨q, hq, hqw⟩, -⟩ := (tight_least hok hv hy hz).1 b h2
  have hw := way_app hp hq
  cases h : tight n es x z with
  | none => exact absurd hw ((tight_least hok hv hx hz).2 h _)
  | some c =>
    refine ⟨c, rfl, ?_⟩
    have := ((tight_least hok hv hx hz).1 c h).2 _ hw
    rw [wt_app] at this
    omega
theorem tight_edge {b : Ed} (hb : b ∈ es) : ∃ c, tight n es b.x b.y = some c ∧ c ≤ b.m := by
  obtain ⟨hx, hy⟩ := hok b hb
  have hw : isWay es b.x [b] b.y := ⟨hb, rfl, rfl⟩
  cases h : tight n es b.x b.y with
  | none => exact absurd hw ((tight_least hok hv hx hy).2 h _)
  | some c =>
    refine ⟨c, rfl, ?_⟩
    have := ((tight_least hok hv hx hy).1 c h).2 _ hw
    simp only [wt] at this
    omega
/-- values of the other unknowns that satisfy the tightest bounds between them can be extended to a model -/
theorem extend {u : Nat} (hu : u < n) {f : Nat → Int} (hf : ∀ x y c, x < n → y < n → x ≠ y → x ≠ u → y ≠ u → tight n es x y = some c → f x - f y ≤ c) : ∃ t, satE (fun k => if k = u then t else f k) es := by
  obtain ⟨M, hM⟩ := most_of (fun j => if j = u then none else (tight n es j u).map (fun d => f j - d)) n
  obtain ⟨t, -, ht2, ht3⟩ := least_of M (fun j => if j = u then none else (tight n es u j).map (fun d => f j + d)) n
  have hM' : ∀ j d, j < n → j ≠ u → tight n es j u = some d → f j - d ≤ M := fun j d hj hju hd => hM j _ hj (by rw [if_neg hju, hd]; rfl)
  have ht2' : ∀ j d, j < n → j ≠ u → tight n es u j = some d → t ≤ f j + d := fun j d hj hju hd => ht2 j _ hj (by rw [if_neg hju, hd]; rfl)
  refine ⟨t, fun b hb => ?_⟩
  obtain ⟨hx, hy⟩ := hok b hb
  obtain ⟨c, hc, hcm⟩ := tight_edge hok hv hb
  have h0 := hv b hb
  simp only
  by_cases hxu : b.x = u
  · rw [if_pos hxu]
    by_cases hyu : b.y = u
    · rw [if_pos hyu]
      rw [hxu, hyu] at h0
      omega
    · rw [if_neg hyu]
      rw [hxu] at hc
      have := ht2' b.y c hy hyu hc
      omega
  · rw [if_neg hxu]
    by_cases hyu : b.y = u
    · rw [if_pos hyu]
      rw [hyu] at hc
      rcases ht3 with rfl | ⟨j, hj, hd⟩
      · have := hM' b.x c hx hxu hc
        omega
      · by_cases hju : j = u
        · rw [if_pos hju] at hd; cases hd
        · rw [if_neg hju] at hd
          cases hd2 : tight n es u j with
          | none => rw [hd2] at hd; cases hd
          | some d2 =>
            rw [hd2] at hd
            have hd' : f j + d2 = t := by injection hd
            obtain ⟨c3, hc3, hle⟩ := tight_tri hok hv hx hu hj hc hd2
            by_cases hxj : b.x = j
            · rw [hxj] at hc ⊢
              rw [hxj] at hc3
              have h5 := (tight_least hok hv hj hj).1 c3 hc3
              obtain ⟨⟨p, hp, hpw⟩, -⟩ := h5
              have := way_sat hv hp
              omega
            · have := hf b.x j c3 hx hj hxj hxu hju hc3
              omega
    · rw [if_neg hyu]
      by_cases hxy : b.x = b.y
      · rw [hxy] at h0 ⊢; omega
      · have := hf b.x b.y c hx hy hxy hxu hyu hc
        omega
end
end Go.Proofs.Ytgecbjjcjemcgaa
