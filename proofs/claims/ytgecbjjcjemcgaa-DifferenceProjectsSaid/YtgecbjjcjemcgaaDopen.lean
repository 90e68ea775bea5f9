/- The arguments of the laws, as they are read: zones, numbers, bounds. -/
import Derived.Test.YtgecbjjcjemcgaaDsame
import Derived.ProofKit
import Derived.OpenShut
import Derived.Deep.Slices
namespace Go.Proofs.Ytgecbjjcjemcgaa
open Go.ChangeShapes Go.WideShapes Go.ChangeAt Go.RowKit Go.Deep

theorem exists_list {α : Type} (Pr : Nat → α → Prop) : ∀ (n : Nat), (∀ i, i < n → ∃ x, Pr i x) → ∃ l : List α, l.length = n ∧ ∀ (k : Nat) (x : α), l[k]? = some x → Pr k x
  | 0, _ => ⟨[], rfl, fun k x h => by simp at h⟩
  | n + 1, h => by
    obtain ⟨l, hl, hp⟩ := exists_list Pr n (fun i hi => h i (by omega))
    obtain ⟨x, hx⟩ := h n (by omega)
    refine ⟨l ++ [x], by simp [hl], fun k y hk => ?_⟩
    rcases Nat.lt_or_ge k l.length with h1 | h1
    · rw [List.getElem?_append_left h1] at hk; exact hp k y hk
    · rw [List.getElem?_append_right h1] at hk
      obtain ⟨h2, h3⟩ := List.getElem?_eq_some_iff.1 hk
      simp only [List.length_singleton] at h2
      obtain rfl : k = n := by omega
      simp at h3
      subst h3
      exact hx

section
variable {H : Type} {enc : TypeId × Value → H} {P : Program} {w : World} {base : Nat} {spare : Nat → Bool} {held : Bool}

theorem open_sl {α : Type} {R : World → Nat → Nat → α → Prop} {sz : Nat} {t e : TypeId} (ht : P.underlying t = some (.slice e)) (hsz : P.cellsOf e = sz) (hpos : 0 < sz)
    (hR : ∀ (n b o : Nat) (cs : List Value) (y : DataW H × List MemPlace), cs.length = sz → (∀ (j : Nat) (u : Value), cs[j]? = some u → w.cell? ⟨b, o + j, none⟩ = some u) → DataW.trod enc P w base spare held n e cs = some y → ∃ x, R w b o x)
    {fuel : Nat} {v : Value} {y : DataW H × List MemPlace} (h : DataW.trod enc P w base spare held fuel t [v] = some y) : ∃ l : List α, Sl R sz w v l := by
  rcases open_slice ht h with ⟨hcs, _⟩ | ⟨a, len, cap, m, n, D, Pl, hcs, _, hl, hm, hmm, _, hi⟩
  · simp only [List.cons.injEq, and_true] at hcs
    subst hcs
    exact ⟨[], Sl.nil _ _ _ _ _ (Nat.zero_le _)⟩
  · simp only [List.cons.injEq, and_true] at hcs
    subst hcs
    have hlm : len ≤ m := by rw [hmm]; split <;> omega
    rcases Nat.eq_zero_or_pos len with h0 | h0
    · subst h0
      exact ⟨[], Sl.nil _ _ _ _ _ hm⟩
    · have hspot : ∃ b o, a = ⟨b, o, none⟩ := by
        obtain ⟨cs', hc, _⟩ := hi 0 (by omega)
        rw [hsz] at hc
        obtain ⟨_, hcl, hat⟩ := World.cells?_some hc
        have h2 := hat 0 hpos
        rw [List.getElem?_eq_getElem (by omega)] at h2
        have h3 := World.cell?_spot h2
        obtain ⟨b, o, sp⟩ := a
        simp only [Addr.add, Nat.zero_mul, if_true] at h3
        exact ⟨b, o, by simpa using h3⟩
      obtain ⟨b, o, rfl⟩ := hspot
      obtain ⟨l, hll, hlp⟩ := exists_list (fun k x => R w b (o + k * sz) x) len (fun i hil => by
        obtain ⟨cs', hc, htr⟩ := hi i (by omega)
        rw [hsz] at hc
        obtain ⟨_, hcl, hat⟩ := World.cells?_some hc
        refine hR n b (o + i * sz) cs' _ hcl (fun j u hj => ?_) htr
        have h4 := hat j (by have := (List.getElem?_eq_some_iff.1 hj).1; omega)
        rw [addr_add, addr_add, hj] at h4
        exact h4)
      exact ⟨l, some ⟨b, o, none⟩, cap, by rw [hll], by omega, hm, fun k x hk => ⟨b, o, rfl, hlp k x hk⟩⟩
end

theorem list1 {α : Type} {l : List α} (h : l.length = 1) : ∃ a, l = [a] := by
  match l, h with
  | [a], _ => exact ⟨a, rfl⟩
theorem list2 {α : Type} {l : List α} (h : l.length = 2) : ∃ a b, l = [a, b] := by
  match l, h with
  | [a, b], _ => exact ⟨a, b, rfl⟩
theorem list3 {α : Type} {l : List α} (h : l.length = 3) : ∃ a b c, l = [a, b, c] := by
  match l, h with
  | [a, b, c], _ => exact ⟨a, b, c, rfl⟩

theorem cells_int : Try.prog.cellsOf 3 = 1 := by kernel_rfl
theorem cells_bds : Try.prog.cellsOf 22 = 1 := by kernel_rfl
theorem cells_bound : Try.prog.cellsOf 56 = 3 := by kernel_rfl

section
variable {H : Type} {enc : TypeId × Value → H} {w : World} {base : Nat} {spare : Nat → Bool} {held : Bool}

theorem read_bound (n b o : Nat) (cs : List Value) (y : DataW H × List MemPlace) (hl : cs.length = 3) (hc : ∀ (j : Nat) (u : Value), cs[j]? = some u → w.cell? ⟨b, o + j, none⟩ = some u)
    (h : DataW.trod enc Try.prog w base spare held n 56 cs = some y) : ∃ x, BdAt w b o x := by
  obtain ⟨c0, c1, c2, rfl⟩ := list3 hl
  obtain ⟨xs, m, _, _, _, hxl, hf⟩ := DataW.trod_struct Try.underlying56 h
  obtain ⟨x0, x1, x2, rfl⟩ := list3 (by simpa using hxl)
  have f0 := hf 0 _ rfl
  have f1 := hf 1 _ rfl
  have f2 := hf 2 _ rfl
  simp [cells_int] at f0 f1 f2
  obtain ⟨k, e0, _⟩ := DataW.trod_int Try.underlying3 f0
  obtain ⟨m', e1, _⟩ := DataW.trod_int Try.underlying3 f1
  obtain ⟨s, e2, _⟩ := DataW.trod_int Try.underlying3 f2
  simp only [List.cons.injEq, and_true] at e0 e1 e2
  subst e0 e1 e2
  exact ⟨⟨k, m', s⟩, hc 0 _ rfl, hc 1 _ rfl, hc 2 _ rfl⟩
theorem read_int1 (n b o : Nat) (cs : List Value) (y : DataW H × List MemPlace) (hl : cs.length = 1) (hc : ∀ (j : Nat) (u : Value), cs[j]? = some u → w.cell? ⟨b, o + j, none⟩ = some u)
    (h : DataW.trod enc Try.prog w base spare held n 3 cs = some y) : ∃ x, IntAt w b o x := by
  obtain ⟨c0, rfl⟩ := list1 hl
  obtain ⟨k, e0, _⟩ := DataW.trod_int Try.underlying3 h
  simp only [List.cons.injEq, and_true] at e0
  subst e0
  exact ⟨k, hc 0 _ rfl⟩
theorem read_ints {fuel : Nat} {v : Value} {y : DataW H × List MemPlace} (h : DataW.trod enc Try.prog w base spare held fuel 27 [v] = some y) : ∃ l, IsInts w v l :=
  open_sl Try.underlying27 cells_int (by decide) (fun n b o cs y h1 h2 h3 => read_int1 n b o cs y h1 h2 h3) h

theorem read_zone_by_value {v : Value} {d : DataW H} {p : List MemPlace} (h : DataW.Trod enc Try.prog w base spare held 24 v d p) : ∃ (n : Int) (bs : List Bd) (u : Value), v = zoneV n u ∧ IsBds w u bs := by
  obtain ⟨fuel, hf⟩ := h
  obtain ⟨xs, m, _, _, hl, hxl, hg⟩ := DataW.trod_struct Try.underlying24 hf
  have hl2 : v.cells.toList.length = 2 := hl.trans (by kernel_rfl)
  cases v with
  | agg cs =>
    obtain ⟨l⟩ := cs
    simp only [Value.cells] at hl2 hg
    obtain ⟨c0, c1, rfl⟩ := list2 hl2
    obtain ⟨x0, x1, rfl⟩ := list2 (by simpa using hxl)
    have f0 := hg 0 _ rfl
    have f1 := hg 1 _ rfl
    simp [cells_int, cells_bds] at f0 f1
    obtain ⟨k0, e0, _⟩ := DataW.trod_int Try.underlying3 f0
    obtain ⟨l, hl5⟩ := open_sl Try.underlying22 cells_bound (by decide) (fun n b o cs y h1 h2 h3 => read_bound n b o cs y h1 h2 h3) f1
    simp only [List.cons.injEq, and_true] at e0
    subst e0
    exact ⟨k0, l, c1, rfl, hl5⟩
  | _ => simp [Value.cells] at hl2

theorem read_bound_by_value {v : Value} {d : DataW H} {p : List MemPlace} (h : DataW.Trod enc Try.prog w base spare held 56 v d p) : ∃ (x : Bd), v = bdV x := by
  obtain ⟨fuel, hf⟩ := h
  obtain ⟨xs, m, _, _, hl, hxl, hg⟩ := DataW.trod_struct Try.underlying56 hf
  have hl2 : v.cells.toList.length = 3 := hl.trans (by kernel_rfl)
  cases v with
  | agg cs =>
    obtain ⟨l⟩ := cs
    simp only [Value.cells] at hl2 hg
    obtain ⟨c0, c1, c2, rfl⟩ := list3 hl2
    obtain ⟨x0, x1, x2, rfl⟩ := list3 (by simpa using hxl)
    have f0 := hg 0 _ rfl
    have f1 := hg 1 _ rfl
    have f2 := hg 2 _ rfl
    simp [cells_int] at f0 f1 f2
    obtain ⟨k0, e0, _⟩ := DataW.trod_int Try.underlying3 f0
    obtain ⟨k1, e1, _⟩ := DataW.trod_int Try.underlying3 f1
    obtain ⟨k2, e2, _⟩ := DataW.trod_int Try.underlying3 f2
    simp only [List.cons.injEq, and_true] at e0 e1 e2
    subst e0 e1 e2
    exact ⟨⟨k0, k1, k2⟩, rfl⟩
  | _ => simp [Value.cells] at hl2
end

theorem own_none : ownKnob Try.prog.godebug = none := by kernel_rfl
theorem laid_out : laidOutB Try.prog = true := by kernel_rfl
end Go.Proofs.Ytgecbjjcjemcgaa
