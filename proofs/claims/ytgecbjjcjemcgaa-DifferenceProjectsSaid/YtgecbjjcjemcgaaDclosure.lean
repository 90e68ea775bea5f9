/- Plain laws of closing: the tightest bounds have the same models, and are their own tightest bounds. -/
import Derived.Test.YtgecbjjcjemcgaaDplain
import Derived.Test.YtgecbjjcjemcgaaDclose
namespace Go.Proofs.Ytgecbjjcjemcgaa
open Go.RowKit

theorem mem_rowE {T : Tab} {x : Nat} {b : Bd} : ∀ {y : Nat}, b ∈ rowE T x y ↔ ∃ v c, v < y ∧ x ≠ v ∧ T x v = some c ∧ b = ⟨x, v, c⟩ := by
  intro y
  induction y with
  | zero => simp [rowE]
  | succ y ih =>
    simp only [rowE, List.mem_append, ih]
    constructor
    · rintro (⟨v, c, h1, h2, h3, h4⟩ | h)
      · exact ⟨v, c, by omega, h2, h3, h4⟩
      · split at h
        · simp at h
        · rename_i hne
          split at h
          · rename_i c hc
            exact ⟨y, c, by omega, hne, hc, by simpa using h⟩
          · simp at h
    · rintro ⟨v, c, h1, h2, h3, h4⟩
      by_cases hv : v = y
      · subst hv
        right
        rw [if_neg h2, h3, h4]
        simp
      · left
        exact ⟨v, c, by omega, h2, h3, h4⟩
theorem mem_entE {T : Tab} {n : Nat} {b : Bd} : ∀ {m : Nat}, b ∈ entE T n m ↔ ∃ x y c, x < m ∧ y < n ∧ x ≠ y ∧ T x y = some c ∧ b = ⟨x, y, c⟩ := by
  intro m
  induction m with
  | zero => simp [entE]
  | succ m ih =>
    simp only [entE, List.mem_append, ih, mem_rowE]
    constructor
    · rintro (⟨x, y, c, h1, h⟩ | ⟨y, c, h1, h2, h3, h4⟩)
      · exact ⟨x, y, c, by omega, h⟩
      · exact ⟨m, y, c, by omega, h1, h2, h3, h4⟩
    · rintro ⟨x, y, c, h1, h2, h3, h4, h5⟩
      by_cases hx : x = m
      · subst hx; right; exact ⟨y, c, h2, h3, h4, h5⟩
      · left; exact ⟨x, y, c, by omega, h2, h3, h4, h5⟩

/-- the tightest bounds as edges -/
abbrev clo (n : Nat) (es : List Ed) : List Bd := entE (tight n es) n n
theorem mem_clo {n : Nat} {es : List Ed} {e : Ed} : e ∈ (clo n es).map ed ↔ e.x < n ∧ e.y < n ∧ e.x ≠ e.y ∧ tight n es e.x e.y = some e.m := by
  constructor
  · intro h
    obtain ⟨b, hb, rfl⟩ := List.mem_map.1 h
    obtain ⟨x, y, c, h1, h2, h3, h4, rfl⟩ := mem_entE.1 hb
    simp only [ed, Int.toNat_natCast]
    exact ⟨h1, h2, h3, h4⟩
  · rintro ⟨h1, h2, h3, h4⟩
    refine List.mem_map.2 ⟨⟨e.x, e.y, e.m⟩, mem_entE.2 ⟨e.x, e.y, e.m, h1, h2, h3, h4, rfl⟩, ?_⟩
    simp [ed]
theorem clo_ok (n : Nat) (es : List Ed) : okE n ((clo n es).map ed) := fun _ he => ⟨(mem_clo.1 he).1, (mem_clo.1 he).2.1⟩

section
variable {n : Nat} {es : List Ed} (hok : okE n es) {val : Nat → Int} (hv : satE val es)
include hok hv
theorem clo_sat {f : Nat → Int} : satE f ((clo n es).map ed) ↔ satE f es := by
  constructor
  · intro h b hb
    obtain ⟨hx, hy⟩ := hok b hb
    have h0 := hv b hb
    by_cases hxy : b.x = b.y
    · rw [hxy] at h0 ⊢; omega
    · have hway : isWay es b.x [b] b.y := ⟨hb, rfl, rfl⟩
      have hw : wt [b] = b.m + 0 := rfl
      cases ht : tight n es b.x b.y with
      | none => exact absurd hway ((tight_least hok hv hx hy).2 ht _)
      | some c =>
        have h1 := ((tight_least hok hv hx hy).1 c ht).2 _ hway
        have h2 := h ⟨b.x, b.y, c⟩ (mem_clo.2 ⟨hx, hy, hxy, ht⟩)
        simp only at h2
        omega
  · intro h e he
    obtain ⟨h1, h2, h3, h4⟩ := mem_clo.1 he
    obtain ⟨⟨fs, hw, hwt⟩, -⟩ := (tight_least hok hv h1 h2).1 _ h4
    have := way_sat h hw
    omega
theorem clo_way : ∀ {ps : List Ed} {x y : Nat}, isWay ((clo n es).map ed) x ps y → ∃ qs, isWay es x qs y ∧ wt qs = wt ps := by
  intro ps
  induction ps with
  | nil => intro x y h; exact ⟨[], h, rfl⟩
  | cons e ps ih =>
    intro x y h
    obtain ⟨h1, h2, h3⟩ := h
    obtain ⟨qs, hq, hqw⟩ := ih h3
    obtain ⟨a1, a2, a3, a4⟩ := mem_clo.1 h1
    obtain ⟨⟨fs, hw, hwt⟩, -⟩ := (tight_least hok hv a1 a2).1 _ a4
    rw [h2] at hw
    refine ⟨fs ++ qs, way_app hw hq, ?_⟩
    rw [wt_app, hwt, hqw]
    rfl
theorem clo_tight {x y : Nat} (hx : x < n) (hy : y < n) : tight n ((clo n es).map ed) x y = tight n es x y := by
  have hv' : satE val ((clo n es).map ed) := (clo_sat hok hv).2 hv
  have hok' := clo_ok n es
  cases ht : tight n es x y with
  | none =>
    refine tight_of_none hok' hv' hx hy (fun ps hp => ?_)
    obtain ⟨qs, hq, -⟩ := clo_way hok hv hp
    exact (tight_least hok hv hx hy).2 ht _ hq
  | some c =>
    obtain ⟨⟨fs, hw, hwt⟩, hle⟩ := (tight_least hok hv hx hy).1 c ht
    refine tight_of_least hok' hv' hx hy ⟨?_, fun ps hp => ?_⟩
    · by_cases hxy : x = y
      · subst hxy
        refine ⟨[], rfl, ?_⟩
        have h1 := hle [] rfl
        have h2 := way_sat hv hw
        have h3 : wt [] = 0 := rfl
        omega
      · exact ⟨[⟨x, y, c⟩], ⟨mem_clo.2 ⟨hx, hy, hxy, ht⟩, rfl, rfl⟩, by simp [wt]⟩
    · obtain ⟨qs, hq, hqw⟩ := clo_way hok hv hp
      rw [← hqw]
      exact hle _ hq
theorem clo_clo : clo n ((clo n es).map ed) = clo n es := entE_congr (Nat.le_refl _) (fun _ _ hu hv' => clo_tight hok hv hu hv')
end

theorem boundErr_two (n : Int) (b : Bd) : boundErr n b = 0 ∨ boundErr n b = 2 := by unfold boundErr; split <;> simp
theorem bdsErr_two (n : Int) (l : List Bd) : bdsErr n l = 0 ∨ bdsErr n l = 2 := by
  induction l with
  | nil => exact .inl rfl
  | cons b l ih =>
    simp only [bdsErr]
    split
    · exact ih
    · exact boundErr_two n b
theorem clo_len {n : Nat} (h : n ≤ 6) (es : List Ed) : (clo n es).length ≤ 36 := by
  have h1 := entE_len (tight n es) n n
  have h2 : n * n ≤ 6 * 6 := Nat.mul_le_mul h h
  unfold clo
  omega
theorem close_cases {n : Nat} {bs : List Bd} (hz : zoneErr n bs = 0) (hn : n ≤ 6) :
    (feas n (bs.map ed) = false ∧ closeR n bs = (0, [], 24)) ∨ (feas n (bs.map ed) = true ∧ closeR n bs = (0, [], 2)) ∨
      (feas n (bs.map ed) = true ∧ bdsErr n (clo n (bs.map ed)) = 0 ∧ closeR n bs = ((n : Int), clo n (bs.map ed), 0)) := by
  unfold closeR
  rw [if_pos hz, Int.toNat_natCast]
  cases hf : feas n (bs.map ed) with
  | false => left; rw [closedR_no hf]; exact ⟨rfl, rfl⟩
  | true =>
    right
    rw [closedR_yes hf hn]
    rcases bdsErr_two n (clo n (bs.map ed)) with h | h
    · right; rw [h]; exact ⟨rfl, rfl, rfl⟩
    · left; rw [h]; exact ⟨rfl, rfl⟩
theorem clo_zone {n : Nat} {bs : List Bd} (hz : zoneErr n bs = 0) (hn : n ≤ 6) (hb : bdsErr n (clo n (bs.map ed)) = 0) : zoneErr n (clo n (bs.map ed)) = 0 := by
  have := clo_len hn (bs.map ed)
  exact zoneErr_parts.2 ⟨(zoneErr_parts.1 hz).1, by omega, hb⟩
theorem clo_feas {n : Nat} {es : List Ed} (hok : okE n es) (hf : feas n es = true) : feas n ((clo n es).map ed) = true :=
  (feas_iff (clo_ok n es)).2 ⟨_, (clo_sat hok (feas_sat hf)).2 (feas_sat hf)⟩
theorem close_again {n : Nat} {bs : List Bd} (hz : zoneErr n bs = 0) (hn : n ≤ 6) (hf : feas n (bs.map ed) = true) (hb : bdsErr n (clo n (bs.map ed)) = 0) : closeR n (clo n (bs.map ed)) = ((n : Int), clo n (bs.map ed), 0) := by
  obtain ⟨-, -, -, hg⟩ := good_of hz
  rw [Int.toNat_natCast] at hg
  have hok := good_ok hg
  have hcc := clo_clo hok (feas_sat hf)
  rcases close_cases (clo_zone hz hn hb) hn with ⟨h, -⟩ | ⟨-, h⟩ | ⟨-, -, h⟩
  · rw [clo_feas hok hf] at h; cases h
  · exfalso
    have hcc' : entE (tight n ((clo n (bs.map ed)).map ed)) n n = clo n (bs.map ed) := hcc
    unfold closeR at h
    rw [if_pos (clo_zone hz hn hb), Int.toNat_natCast, closedR_yes (clo_feas hok hf) hn, hcc', if_pos hb] at h
    simp at h
  · rw [hcc] at h; exact h
theorem holds_clo {n : Nat} {bs : List Bd} (hz : zoneErr n bs = 0) (hn : n ≤ 6) (hf : feas n (bs.map ed) = true) (hb : bdsErr n (clo n (bs.map ed)) = 0) (vs : List Int) : holdsR n (clo n (bs.map ed)) vs = holdsR n bs vs := by
  obtain ⟨-, -, -, hg⟩ := good_of hz
  rw [Int.toNat_natCast] at hg
  have hs : satB (clo n (bs.map ed)) vs = satB bs vs := by
    rw [Bool.eq_iff_iff, satB_iff, satB_iff]
    exact clo_sat (good_ok hg) (feas_sat hf)
  unfold holdsR
  rw [clo_zone hz hn hb, hz, hs]
end Go.Proofs.Ytgecbjjcjemcgaa
