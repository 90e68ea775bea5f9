/- The arguments of the laws, as they are read: lists of queues and of items. -/
import Derived.Test.YteonfoaemljndaaAwake
import Derived.ProofKit
import Derived.OpenShut
import Derived.Deep.Slices
namespace Go.Proofs.Yteonfoaemljndaa
open Go.ChangeShapes Go.WideShapes Go.ChangeAt Go.RowKit Go.Deep

theorem exists_list {α : Type} (Pr : Nat → α → Prop) : ∀ (n : Nat), (∀ i, i < n → ∃ x, Pr i x) → ∃ l : List α, l.length = n ∧ ∀ (k : Nat) (x : α), l[k]? = some x → Pr k x
  | 0, _ => ⟨[], rfl, fun k x h => by simp at h⟩
  | n + 1, h => by
    obtain ⟨l, hl, hp⟩ := exists_list Pr n (fun i hi => h i (by omega))
    obtain ⟨x, hx⟩ := h n (by omega)
    refine ⟨l ++ [x], by simp [hl], fun k y hk => ?_⟩
    rcases Nat.lt_or_ge k l.length with h1 | h1
    · rw [List.getElem?_append_left h1] at hk; exact hp k y hk
    · rw [List.getElem?_append_right h1] at hk
      obtain ⟨h2, h3⟩ := List.getElem?_eq_some_iff.1 hk
      simp only [List.length_singleton] at h2
      obtain rfl : k = n := by omega
      simp at h3
      subst h3
      exact hx

section
variable {H : Type} {enc : TypeId × Value → H} {P : Program} {w : World} {base : Nat} {spare : Nat → Bool} {held : Bool}

theorem open_sl {α : Type} {R : World → Nat → Nat → α → Prop} {sz : Nat} {t e : TypeId} (ht : P.underlying t = some (.slice e)) (hsz : P.cellsOf e = sz) (hpos : 0 < sz)
    (hR : ∀ (n b o : Nat) (cs : List Value) (y : DataW H × List MemPlace), cs.length = sz → (∀ (j : Nat) (u : Value), cs[j]? = some u → w.cell? ⟨b, o + j, none⟩ = some u) → DataW.trod enc P w base spare held n e cs = some y → ∃ x, R w b o x)
    {fuel : Nat} {v : Value} {y : DataW H × List MemPlace} (h : DataW.trod enc P w base spare held fuel t [v] = some y) : ∃ l : List α, Sl R sz w v l := by
  rcases open_slice ht h with ⟨hcs, _⟩ | ⟨a, len, cap, m, n, D, Pl, hcs, _, hl, hm, hmm, _, hi⟩
  · simp only [List.cons.injEq, and_true] at hcs
    subst hcs
    exact ⟨[], Sl.nil _ _ _ _ _ (Nat.zero_le _)⟩
  · simp only [List.cons.injEq, and_true] at hcs
    subst hcs
    have hlm : len ≤ m := by rw [hmm]; split <;> omega
    rcases Nat.eq_zero_or_pos len with h0 | h0
    · subst h0
      exact ⟨[], Sl.nil _ _ _ _ _ hm⟩
    · have hspot : ∃ b o, a = ⟨b, o, none⟩ := by
        obtain ⟨cs', hc, _⟩ := hi 0 (by omega)
        rw [hsz] at hc
        obtain ⟨_, hcl, hat⟩ := World.cells?_some hc
        have h2 := hat 0 hpos
        rw [List.getElem?_eq_getElem (by omega)] at h2
        have h3 := World.cell?_spot h2
        obtain ⟨b, o, sp⟩ := a
        simp only [Addr.add, Nat.zero_mul, if_true] at h3
        exact ⟨b, o, by simpa using h3⟩
      obtain ⟨b, o, rfl⟩ := hspot
      obtain ⟨l, hll, hlp⟩ := exists_list (fun k x => R w b (o + k * sz) x) len (fun i hil => by
        obtain ⟨cs', hc, htr⟩ := hi i (by omega)
        rw [hsz] at hc
        obtain ⟨_, hcl, hat⟩ := World.cells?_some hc
        refine hR n b (o + i * sz) cs' _ hcl (fun j u hj => ?_) htr
        have h4 := hat j (by have := (List.getElem?_eq_some_iff.1 hj).1; omega)
        rw [addr_add, addr_add, hj] at h4
        exact h4)
      exact ⟨l, some ⟨b, o, none⟩, cap, by rw [hll], by omega, hm, fun k x hk => ⟨b, o, rfl, hlp k x hk⟩⟩
end

theorem list3 {α : Type} {l : List α} (h : l.length = 3) : ∃ a b c, l = [a, b, c] := by
  match l, h with
  | [a, b, c], _ => exact ⟨a, b, c, rfl⟩
theorem list5 {α : Type} {l : List α} (h : l.length = 5) : ∃ a b c d e, l = [a, b, c, d, e] := by
  match l, h with
  | [a, b, c, d, e], _ => exact ⟨a, b, c, d, e, rfl⟩
theorem list7 {α : Type} {l : List α} (h : l.length = 7) : ∃ a b c d e f g, l = [a, b, c, d, e, f, g] := by
  match l, h with
  | [a, b, c, d, e, f, g], _ => exact ⟨a, b, c, d, e, f, g, rfl⟩

theorem cells_int : Try.prog.cellsOf 3 = 1 := by kernel_rfl
theorem cells_str : Try.prog.cellsOf 9 = 1 := by kernel_rfl
theorem cells_sl35 : Try.prog.cellsOf 35 = 1 := by kernel_rfl
theorem cells_sl24 : Try.prog.cellsOf 24 = 1 := by kernel_rfl
theorem cells_val : Try.prog.cellsOf 84 = 3 := by kernel_rfl
theorem cells_event : Try.prog.cellsOf 37 = 5 := by kernel_rfl
theorem cells_item : Try.prog.cellsOf 39 = 7 := by kernel_rfl
theorem cells_queue : Try.prog.cellsOf 69 = 3 := by kernel_rfl

section
variable {H : Type} {enc : TypeId × Value → H} {w : World} {base : Nat} {spare : Nat → Bool} {held : Bool}

theorem read_val (n b o : Nat) (cs : List Value) (y : DataW H × List MemPlace) (hl : cs.length = 3) (hc : ∀ (j : Nat) (u : Value), cs[j]? = some u → w.cell? ⟨b, o + j, none⟩ = some u)
    (h : DataW.trod enc Try.prog w base spare held n 84 cs = some y) : ∃ x, ValAt w b o x := by
  obtain ⟨c0, c1, c2, rfl⟩ := list3 hl
  obtain ⟨xs, m, _, _, _, hxl, hf⟩ := DataW.trod_struct Try.underlying84 h
  obtain ⟨x0, x1, x2, rfl⟩ := list3 (by simpa using hxl)
  have f0 := hf 0 _ rfl
  have f1 := hf 1 _ rfl
  have f2 := hf 2 _ rfl
  simp [cells_int, cells_str] at f0 f1 f2
  obtain ⟨k, e0, _⟩ := DataW.trod_int Try.underlying3 f0
  obtain ⟨m', e1, _⟩ := DataW.trod_int Try.underlying3 f1
  obtain ⟨s, e2, _⟩ := DataW.trod_string Try.underlying9 f2
  simp only [List.cons.injEq, and_true] at e0 e1 e2
  subst e0 e1 e2
  exact ⟨⟨k, m', s⟩, hc 0 _ rfl, hc 1 _ rfl, hc 2 _ rfl⟩

theorem read_item (n b o : Nat) (cs : List Value) (y : DataW H × List MemPlace) (hl : cs.length = 7) (hc : ∀ (j : Nat) (u : Value), cs[j]? = some u → w.cell? ⟨b, o + j, none⟩ = some u)
    (h : DataW.trod enc Try.prog w base spare held n 39 cs = some y) : ∃ x, ItemAt w b o x := by
  obtain ⟨c0, c1, c2, c3, c4, c5, c6, rfl⟩ := list7 hl
  obtain ⟨xs, m, _, _, _, hxl, hf⟩ := DataW.trod_struct Try.underlying39 h
  obtain ⟨x0, x1, x2, rfl⟩ := list3 (by simpa using hxl)
  have f0 := hf 0 _ rfl
  have f1 := hf 1 _ rfl
  have f2 := hf 2 _ rfl
  simp [cells_int, cells_event] at f0 f1 f2
  obtain ⟨k0, e0, _⟩ := DataW.trod_int Try.underlying3 f0
  obtain ⟨k6, e6, _⟩ := DataW.trod_int Try.underlying3 f2
  obtain ⟨ys, m2, _, _, _, hyl, hg⟩ := DataW.trod_struct Try.underlying37 f1
  obtain ⟨y0, y1, y2, y3, y4, rfl⟩ := list5 (by simpa using hyl)
  have g0 := hg 0 _ rfl
  have g1 := hg 1 _ rfl
  have g2 := hg 2 _ rfl
  have g3 := hg 3 _ rfl
  have g4 := hg 4 _ rfl
  simp [cells_int, cells_sl35] at g0 g1 g2 g3 g4
  obtain ⟨k1, e1, _⟩ := DataW.trod_int Try.underlying3 g0
  obtain ⟨k2, e2, _⟩ := DataW.trod_int Try.underlying3 g1
  obtain ⟨k3, e3, _⟩ := DataW.trod_int Try.underlying3 g2
  obtain ⟨k4, e4, _⟩ := DataW.trod_int Try.underlying3 g3
  obtain ⟨l, hl5⟩ := open_sl Try.underlying35 cells_val (by decide) (fun n b o cs y h1 h2 h3 => read_val n b o cs y h1 h2 h3) g4
  simp only [List.cons.injEq, and_true] at e0 e1 e2 e3 e4 e6
  subst e0 e1 e2 e3 e4 e6
  exact ⟨⟨k0, k1, k2, k3, k4, l, k6⟩, c5, hl5, hc 0 _ rfl, hc 1 _ rfl, hc 2 _ rfl, hc 3 _ rfl, hc 4 _ rfl, hc 5 _ rfl, hc 6 _ rfl⟩

theorem read_queue (n b o : Nat) (cs : List Value) (y : DataW H × List MemPlace) (hl : cs.length = 3) (hc : ∀ (j : Nat) (u : Value), cs[j]? = some u → w.cell? ⟨b, o + j, none⟩ = some u)
    (h : DataW.trod enc Try.prog w base spare held n 69 cs = some y) : ∃ x, QueueAt w b o x := by
  obtain ⟨c0, c1, c2, rfl⟩ := list3 hl
  obtain ⟨xs, m, _, _, _, hxl, hf⟩ := DataW.trod_struct Try.underlying69 h
  obtain ⟨x0, x1, x2, rfl⟩ := list3 (by simpa using hxl)
  have f0 := hf 0 _ rfl
  have f1 := hf 1 _ rfl
  have f2 := hf 2 _ rfl
  simp [cells_int, cells_sl24] at f0 f1 f2
  obtain ⟨k, e0, _⟩ := DataW.trod_int Try.underlying3 f0
  obtain ⟨m', e1, _⟩ := DataW.trod_int Try.underlying3 f1
  obtain ⟨l, hl2⟩ := open_sl Try.underlying24 cells_item (by decide) (fun n b o cs y h1 h2 h3 => read_item n b o cs y h1 h2 h3) f2
  simp only [List.cons.injEq, and_true] at e0 e1
  subst e0 e1
  exact ⟨⟨k, m', l⟩, c2, hl2, hc 0 _ rfl, hc 1 _ rfl, hc 2 _ rfl⟩

theorem read_queues {fuel : Nat} {v : Value} {y : DataW H × List MemPlace} (h : DataW.trod enc Try.prog w base spare held fuel 22 [v] = some y) : ∃ l, IsQueues w v l :=
  open_sl Try.underlying22 cells_queue (by decide) (fun n b o cs y h1 h2 h3 => read_queue n b o cs y h1 h2 h3) h
theorem read_items {fuel : Nat} {v : Value} {y : DataW H × List MemPlace} (h : DataW.trod enc Try.prog w base spare held fuel 24 [v] = some y) : ∃ l, IsItems w v l :=
  open_sl Try.underlying24 cells_item (by decide) (fun n b o cs y h1 h2 h3 => read_item n b o cs y h1 h2 h3) h

theorem read_arr2 {v : Value} {d : DataW H} {p : List MemPlace} (h : DataW.Trod enc Try.prog w base spare held 23 v d p) : ∃ a b : Int, v = .agg #[.int .i64 a, .int .i64 b] := by
  obtain ⟨fuel, hf⟩ := h
  obtain ⟨xs, m, _, _, hl, hxl, hg⟩ := DataW.trod_array Try.underlying23 hf
  have hl2 : v.cells.toList.length = 2 := hl.trans (by kernel_rfl)
  cases v with
  | agg cs =>
    obtain ⟨l⟩ := cs
    match l, hl2 with
    | [c0, c1], _ =>
      match xs, hxl with
      | [x0, x1], _ =>
        have g0 := hg 0 (by decide)
        have g1 := hg 1 (by decide)
        simp [cells_int, Value.cells] at g0 g1
        obtain ⟨a, e0, _⟩ := DataW.trod_int Try.underlying3 g0
        obtain ⟨b, e1, _⟩ := DataW.trod_int Try.underlying3 g1
        simp only [List.cons.injEq, and_true] at e0 e1
        subst e0 e1
        exact ⟨a, b, rfl⟩
  | _ => simp [Value.cells] at hl2

theorem read_item_by_value {v : Value} {d : DataW H} {p : List MemPlace} (h : DataW.Trod enc Try.prog w base spare held 39 v d p) : ∃ (x : Item) (u : Value), v = itemV x u ∧ IsVals w u x.values := by
  obtain ⟨fuel, hf⟩ := h
  obtain ⟨xs, m, _, _, hl, hxl, hg⟩ := DataW.trod_struct Try.underlying39 hf
  have hl2 : v.cells.toList.length = 7 := hl.trans (by kernel_rfl)
  cases v with
  | agg cs =>
    obtain ⟨l⟩ := cs
    simp only [Value.cells] at hl2 hg
    obtain ⟨c0, c1, c2, c3, c4, c5, c6, rfl⟩ := list7 hl2
    obtain ⟨x0, x1, x2, rfl⟩ := list3 (by simpa using hxl)
    have f0 := hg 0 _ rfl
    have f1 := hg 1 _ rfl
    have f2 := hg 2 _ rfl
    simp [cells_int, cells_event] at f0 f1 f2
    obtain ⟨k0, e0, _⟩ := DataW.trod_int Try.underlying3 f0
    obtain ⟨k6, e6, _⟩ := DataW.trod_int Try.underlying3 f2
    obtain ⟨ys, m2, _, _, _, hyl, hg2⟩ := DataW.trod_struct Try.underlying37 f1
    obtain ⟨y0, y1, y2, y3, y4, rfl⟩ := list5 (by simpa using hyl)
    have g0 := hg2 0 _ rfl
    have g1 := hg2 1 _ rfl
    have g2 := hg2 2 _ rfl
    have g3 := hg2 3 _ rfl
    have g4 := hg2 4 _ rfl
    simp [cells_int, cells_sl35] at g0 g1 g2 g3 g4
    obtain ⟨k1, e1, _⟩ := DataW.trod_int Try.underlying3 g0
    obtain ⟨k2, e2, _⟩ := DataW.trod_int Try.underlying3 g1
    obtain ⟨k3, e3, _⟩ := DataW.trod_int Try.underlying3 g2
    obtain ⟨k4, e4, _⟩ := DataW.trod_int Try.underlying3 g3
    obtain ⟨l, hl5⟩ := open_sl Try.underlying35 cells_val (by decide) (fun n b o cs y h1 h2 h3 => read_val n b o cs y h1 h2 h3) g4
    simp only [List.cons.injEq, and_true] at e0 e1 e2 e3 e4 e6
    subst e0 e1 e2 e3 e4 e6
    exact ⟨⟨k0, k1, k2, k3, k4, l, k6⟩, c5, rfl, hl5⟩
  | _ => simp [Value.cells] at hl2
end

theorem own_none : ownKnob Try.prog.godebug = none := by kernel_rfl
theorem laid_out : laidOutB Try.prog = true := by kernel_rfl
end Go.Proofs.Yteonfoaemljndaa
