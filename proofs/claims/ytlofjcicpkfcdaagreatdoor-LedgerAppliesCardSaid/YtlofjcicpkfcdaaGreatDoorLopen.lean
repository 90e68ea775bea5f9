/- The arguments of the laws, as they are read: lists of entries, of changes, of matches; what the listed table gives. -/
import Derived.Test.YtlofjcicpkfcdaaGreatDoorRows
import Derived.SevenTiedAt
import Derived.Test.YtlofjcicpkfcdaaGreatDoorLled3
import Derived.Test.YtlofjcicpkfcdaaGreatDoorLkey2
import Derived.ProofKit
import Derived.OpenShut
import Derived.Deep.Slices
import Derived.LaidMore
import Derived.Lib.LaidTab
import Derived.Stop.LaidErr
import Derived.Stop.Joined
namespace Go.Proofs.YtlofjcicpkfcdaaGreatDoor
open Go.ChangeShapes Go.WideShapes Go.ChangeAt Go.RowKit Go.Deep

theorem exists_list {α : Type} (Pr : Nat → α → Prop) : ∀ (n : Nat), (∀ i, i < n → ∃ x, Pr i x) → ∃ l : List α, l.length = n ∧ ∀ (k : Nat) (x : α), l[k]? = some x → Pr k x
  | 0, _ => ⟨[], rfl, fun k x h => by simp at h⟩
  | n + 1, h => by
    obtain ⟨l, hl, hp⟩ := exists_list Pr n (fun i hi => h i (by omega))
    obtain ⟨x, hx⟩ := h n (by omega)
    refine ⟨l ++ [x], by simp [hl], fun k y hk => ?_⟩
    rcases Nat.lt_or_ge k l.length with h1 | h1
    · rw [List.getElem?_append_left h1] at hk; exact hp k y hk
    · rw [List.getElem?_append_right h1] at hk
      obtain ⟨h2, h3⟩ := List.getElem?_eq_some_iff.1 hk
      simp only [List.length_singleton] at h2
      obtain rfl : k = n := by omega
      simp at h3
      subst h3
      exact hx

section
variable {H : Type} {enc : TypeId × Value → H} {P : Program} {w : World} {base : Nat} {spare : Nat → Bool} {held : Bool}

theorem open_sl {α : Type} {R : World → Nat → Nat → α → Prop} {sz : Nat} {t e : TypeId} (ht : P.underlying t = some (.slice e)) (hsz : P.cellsOf e = sz) (hpos : 0 < sz)
    (hR : ∀ (n b o : Nat) (cs : List Value) (y : DataW H × List MemPlace), cs.length = sz → (∀ (j : Nat) (u : Value), cs[j]? = some u → w.cell? ⟨b, o + j, none⟩ = some u) → DataW.trod enc P w base spare held n e cs = some y → ∃ x, R w b o x)
    {fuel : Nat} {v : Value} {y : DataW H × List MemPlace} (h : DataW.trod enc P w base spare held fuel t [v] = some y) : ∃ l : List α, Sl R sz w v l := by
  rcases open_slice ht h with ⟨hcs, _⟩ | ⟨a, len, cap, m, n, D, Pl, hcs, _, hl, hm, hmm, _, hi⟩
  · simp only [List.cons.injEq, and_true] at hcs
    subst hcs
    exact ⟨[], Sl.nil _ _ _ _ _ (Nat.zero_le _)⟩
  · simp only [List.cons.injEq, and_true] at hcs
    subst hcs
    have hlm : len ≤ m := by rw [hmm]; split <;> omega
    rcases Nat.eq_zero_or_pos len with h0 | h0
    · subst h0
      exact ⟨[], Sl.nil _ _ _ _ _ hm⟩
    · have hspot : ∃ b o, a = ⟨b, o, none⟩ := by
        obtain ⟨cs', hc, _⟩ := hi 0 (by omega)
        rw [hsz] at hc
        obtain ⟨_, hcl, hat⟩ := World.cells?_some hc
        have h2 := hat 0 hpos
        rw [List.getElem?_eq_getElem (by omega)] at h2
        have h3 := World.cell?_spot h2
        obtain ⟨b, o, sp⟩ := a
        simp only [Addr.add, Nat.zero_mul, if_true] at h3
        exact ⟨b, o, by simpa using h3⟩
      obtain ⟨b, o, rfl⟩ := hspot
      obtain ⟨l, hll, hlp⟩ := exists_list (fun k x => R w b (o + k * sz) x) len (fun i hil => by
        obtain ⟨cs', hc, htr⟩ := hi i (by omega)
        rw [hsz] at hc
        obtain ⟨_, hcl, hat⟩ := World.cells?_some hc
        refine hR n b (o + i * sz) cs' _ hcl (fun j u hj => ?_) htr
        have h4 := hat j (by have := (List.getElem?_eq_some_iff.1 hj).1; omega)
        rw [addr_add, addr_add, hj] at h4
        exact h4)
      exact ⟨l, some ⟨b, o, none⟩, cap, by rw [hll], by omega, hm, fun k x hk => ⟨b, o, rfl, hlp k x hk⟩⟩
end


theorem list1 {α : Type} {l : List α} (h : l.length = 1) : ∃ a, l = [a] := by
  match l, h with
  | [a], _ => exact ⟨a, rfl⟩
theorem list2 {α : Type} {l : List α} (h : l.length = 2) : ∃ a b, l = [a, b] := by
  match l, h with
  | [a, b], _ => exact ⟨a, b, rfl⟩
theorem list3 {α : Type} {l : List α} (h : l.length = 3) : ∃ a b c, l = [a, b, c] := by
  match l, h with
  | [a, b, c], _ => exact ⟨a, b, c, rfl⟩
theorem list4 {α : Type} {l : List α} (h : l.length = 4) : ∃ a b c d, l = [a, b, c, d] := by
  match l, h with
  | [a, b, c, d], _ => exact ⟨a, b, c, d, rfl⟩

theorem cells_int : Tryz.prog.cellsOf 3 = 1 := by kernel_rfl
theorem cells_ref : Tryz.prog.cellsOf 72 = 3 := by kernel_rfl
theorem cells_bnds : Tryz.prog.cellsOf 28 = 1 := by kernel_rfl
theorem cells_bnd : Tryz.prog.cellsOf 74 = 4 := by kernel_rfl
theorem cells_mat : Tryz.prog.cellsOf 30 = 1 := by kernel_rfl
theorem cells_ent : Tryz.prog.cellsOf 45 = 3 := by kernel_rfl
theorem cells_chg : Tryz.prog.cellsOf 32 = 3 := by kernel_rfl

section
variable {H : Type} {enc : TypeId × Value → H} {w : World} {base : Nat} {spare : Nat → Bool} {held : Bool}

theorem read_bnd (n b o : Nat) (cs : List Value) (y : DataW H × List MemPlace) (hl : cs.length = 4) (hc : ∀ (j : Nat) (u : Value), cs[j]? = some u → w.cell? ⟨b, o + j, none⟩ = some u)
    (h : DataW.trod enc Tryz.prog w base spare held n 74 cs = some y) : ∃ x, BndAt w b o x := by
  obtain ⟨c0, c1, c2, c3, rfl⟩ := list4 hl
  obtain ⟨xs, m, _, _, _, hxl, hf⟩ := DataW.trod_struct Tryz.underlying74 h
  obtain ⟨x0, x1, rfl⟩ := list2 (by simpa using hxl)
  have f0 := hf 0 _ rfl
  have f1 := hf 1 _ rfl
  simp [cells_int, cells_ref] at f0 f1
  obtain ⟨k0, e0, _⟩ := DataW.trod_int Tryz.underlying3 f0
  obtain ⟨ys, m2, _, _, _, hyl, hg⟩ := DataW.trod_struct Tryz.underlying72 f1
  obtain ⟨y0, y1, y2, rfl⟩ := list3 (by simpa using hyl)
  have g0 := hg 0 _ rfl
  have g1 := hg 1 _ rfl
  have g2 := hg 2 _ rfl
  simp [cells_int] at g0 g1 g2
  obtain ⟨k1, e1, _⟩ := DataW.trod_int Tryz.underlying3 g0
  obtain ⟨k2, e2, _⟩ := DataW.trod_int Tryz.underlying3 g1
  obtain ⟨k3, e3, _⟩ := DataW.trod_int Tryz.underlying3 g2
  simp only [List.cons.injEq, and_true] at e0 e1 e2 e3
  subst e0 e1 e2 e3
  exact ⟨⟨k0, k1, k2, k3⟩, hc 0 _ rfl, hc 1 _ rfl, hc 2 _ rfl, hc 3 _ rfl⟩
theorem read_bnds {fuel : Nat} {v : Value} {y : DataW H × List MemPlace} (h : DataW.trod enc Tryz.prog w base spare held fuel 28 [v] = some y) : ∃ l, IsBnds w v l :=
  open_sl Tryz.underlying28 cells_bnd (by decide) (fun n b o cs y h1 h2 h3 => read_bnd n b o cs y h1 h2 h3) h
theorem read_matc {n : Nat} {c : Value} {y : DataW H × List MemPlace} (h : DataW.trod enc Tryz.prog w base spare held n 30 [c] = some y) : ∃ l, IsBnds w c l := by
  obtain ⟨xs, m, _, _, _, hxl, hf⟩ := DataW.trod_struct Tryz.underlying30 h
  obtain ⟨x0, rfl⟩ := list1 (by simpa using hxl)
  have f0 := hf 0 _ rfl
  simp [cells_bnds] at f0
  exact read_bnds f0
theorem read_mat (n b o : Nat) (cs : List Value) (y : DataW H × List MemPlace) (hl : cs.length = 1) (hc : ∀ (j : Nat) (u : Value), cs[j]? = some u → w.cell? ⟨b, o + j, none⟩ = some u)
    (h : DataW.trod enc Tryz.prog w base spare held n 30 cs = some y) : ∃ x, MatAt w b o x := by
  obtain ⟨c0, rfl⟩ := list1 hl
  obtain ⟨l, hl⟩ := read_matc h
  exact ⟨l, c0, hl, hc 0 _ rfl⟩
theorem read_ent (n b o : Nat) (cs : List Value) (y : DataW H × List MemPlace) (hl : cs.length = 3) (hc : ∀ (j : Nat) (u : Value), cs[j]? = some u → w.cell? ⟨b, o + j, none⟩ = some u)
    (h : DataW.trod enc Tryz.prog w base spare held n 45 cs = some y) : ∃ x, EntAt w b o x := by
  obtain ⟨c0, c1, c2, rfl⟩ := list3 hl
  obtain ⟨xs, m, _, _, _, hxl, hf⟩ := DataW.trod_struct Tryz.underlying45 h
  obtain ⟨x0, x1, x2, rfl⟩ := list3 (by simpa using hxl)
  have f0 := hf 0 _ rfl
  have f1 := hf 1 _ rfl
  have f2 := hf 2 _ rfl
  simp [cells_int, cells_mat] at f0 f1 f2
  obtain ⟨k0, e0, _⟩ := DataW.trod_int Tryz.underlying3 f0
  obtain ⟨k2, e2, _⟩ := DataW.trod_int Tryz.underlying3 f2
  obtain ⟨l, hll⟩ := read_matc f1
  simp only [List.cons.injEq, and_true] at e0 e2
  subst e0 e2
  exact ⟨⟨k0, l, k2⟩, c1, hll, hc 0 _ rfl, hc 1 _ rfl, hc 2 _ rfl⟩
theorem read_chg (n b o : Nat) (cs : List Value) (y : DataW H × List MemPlace) (hl : cs.length = 3) (hc : ∀ (j : Nat) (u : Value), cs[j]? = some u → w.cell? ⟨b, o + j, none⟩ = some u)
    (h : DataW.trod enc Tryz.prog w base spare held n 32 cs = some y) : ∃ x, ChgAt w b o x := by
  obtain ⟨c0, c1, c2, rfl⟩ := list3 hl
  obtain ⟨xs, m, _, _, _, hxl, hf⟩ := DataW.trod_struct Tryz.underlying32 h
  obtain ⟨x0, x1, x2, rfl⟩ := list3 (by simpa using hxl)
  have f0 := hf 0 _ rfl
  have f1 := hf 1 _ rfl
  have f2 := hf 2 _ rfl
  simp [cells_int, cells_mat] at f0 f1 f2
  obtain ⟨k0, e0, _⟩ := DataW.trod_int Tryz.underlying3 f0
  obtain ⟨k1, e1, _⟩ := DataW.trod_int Tryz.underlying3 f1
  obtain ⟨l, hll⟩ := read_matc f2
  simp only [List.cons.injEq, and_true] at e0 e1
  subst e0 e1
  exact ⟨⟨k0, k1, l⟩, c2, hll, hc 0 _ rfl, hc 1 _ rfl, hc 2 _ rfl⟩
theorem read_ents {fuel : Nat} {v : Value} {y : DataW H × List MemPlace} (h : DataW.trod enc Tryz.prog w base spare held fuel 22 [v] = some y) : ∃ l, IsEnts w v l :=
  open_sl Tryz.underlying22 cells_ent (by decide) (fun n b o cs y h1 h2 h3 => read_ent n b o cs y h1 h2 h3) h
theorem read_chgs {fuel : Nat} {v : Value} {y : DataW H × List MemPlace} (h : DataW.trod enc Tryz.prog w base spare held fuel 23 [v] = some y) : ∃ l, IsChgs w v l :=
  open_sl Tryz.underlying23 cells_chg (by decide) (fun n b o cs y h1 h2 h3 => read_chg n b o cs y h1 h2 h3) h
theorem read_mats {fuel : Nat} {v : Value} {y : DataW H × List MemPlace} (h : DataW.trod enc Tryz.prog w base spare held fuel 27 [v] = some y) : ∃ l, IsMats w v l :=
  open_sl Tryz.underlying27 cells_mat (by decide) (fun n b o cs y h1 h2 h3 => read_mat n b o cs y h1 h2 h3) h
end

theorem own_none : ownKnob Tryz.prog.godebug = none := by kernel_rfl
theorem laid_out : laidOutB Tryz.prog = true := by kernel_rfl
abbrev theLaid : List (String × DataW Unit) := [("math/bits.deBruijn32tab", Rows.laid_math_bits_deBruijn32tab), ("math/bits.deBruijn64tab", Rows.laid_math_bits_deBruijn64tab), ("internal/strconv.uint64pow10", Rows.laid_internal_strconv_uint64pow10)]
theorem door_met (os : Os) (args : Array Value) : laidMetH Tryz.prog theLaid ((World.doorLaid Tryz.prog 400 os).forCall (fun _ _ => 0) ⟨#[], args, []⟩).memory :=
  laidMetH_of_parts3 (fuel := 8) (laidMet_of_run' 8 (by kernel_rfl) (by kernel_rfl)) (by kernel_rfl) (by kernel_rfl)
theorem tab_of_laid {W : World} (h : laidMetH Tryz.prog theLaid W) : Tab W := by
  rw [MakeChecks.laidMetH_plain _ _ _ (by kernel_rfl)] at h
  have h2 : laidMet Tryz.prog (("internal/strconv.uint64pow10", Lib.tabData .u64 Lib.pow10Tab) :: []) W := h.tail.tail
  exact Lib.tabIs_of_head (g := 0) (t := 148) (e := 122) (n := 20) (by kernel_rfl) (by kernel_rfl) (by kernel_rfl) (by kernel_rfl) (by kernel_rfl) (by kernel_rfl) h2
end Go.Proofs.YtlofjcicpkfcdaaGreatDoor
