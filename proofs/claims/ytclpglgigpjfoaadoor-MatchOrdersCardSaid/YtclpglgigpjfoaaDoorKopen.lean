/- Collected by program (collect.py) out of my templates Lled Lidx Lled2 Lown Ldel Lnew Lsort Lkey Lkey2 Ltot1 Ltot2 Lled3 Lfun Lapp Lstand Ldiff Lrev Lcomp Lsortm Lstep Ldiff2 Lpl2 Ldiff3 Lsingle Lsame Lsame2 Lawake Lmsort Lof Lradd Lfew Lsmall Llaws Lrsum Lrput Lrsort Lopen: what the contracts exists_list, open_sl, list1, list2, list3, list4, read_bnds, read_mats, read_mat, read_matc, own_none, laid_out, theLaid, door_met, tab_of_laid lean on. -/
import Derived.Test.YtclpglgigpjfoaaDoorRows
import Derived.Test.YtclpglgigpjfoaaDoorKown
import Derived.SevenTiedAt
import Derived.ProofKit
import Derived.OpenShut
import Derived.Deep.Slices
import Derived.LaidMore
import Derived.Lib.LaidTab
import Derived.Stop.LaidErr
import Derived.Stop.Joined
namespace Go.Proofs.YtclpglgigpjfoaaDoor
section
open Go.ChangeShapes Go.WideShapes Go.ChangeAt Go.RowKit Go.Deep
section
variable {H : Type} {enc : TypeId × Value → H} {P : Program} {w : World} {base : Nat} {spare : Nat → Bool} {held : Bool}
theorem open_sl {α : Type} {R : World → Nat → Nat → α → Prop} {sz : Nat} {t e : TypeId} (ht : P.underlying t = some (.slice e)) (hsz : P.cellsOf e = sz) (hpos : 0 < sz)
    (hR : ∀ (n b o : Nat) (cs : List Value) (y : DataW H × List MemPlace), cs.length = sz → (∀ (j : Nat) (u : Value), cs[j]? = some u → w.cell? ⟨b, o + j, none⟩ = some u) → DataW.trod enc P w base spare held n e cs = some y → ∃ x, R w b o x)
    {fuel : Nat} {v : Value} {y : DataW H × List MemPlace} (h : DataW.trod enc P w base spare held fuel t [v] = some y) : ∃ l : List α, Sl R sz w v l := by
  rcases open_slice ht h with ⟨hcs, _⟩ | ⟨a, len, cap, m, n, D, Pl, hcs, _, hl, hm, hmm, _, hi⟩
  · simp only [List.cons.injEq, and_true] at hcs
    subst hcs
    exact ⟨[], Sl.nil _ _ _ _ _ (Nat.zero_le _)⟩
  · simp only [List.cons.injEq, and_true] at hcs
    subst hcs
    have hlm : len ≤ m := by rw [hmm]; split <;> omega
    rcases Nat.eq_zero_or_pos len with h0 | h0
    · subst h0
      exact ⟨[], Sl.nil _ _ _ _ _ hm⟩
    · have hspot : ∃ b o, a = ⟨b, o, none⟩ := by
        obtain ⟨cs', hc, _⟩ := hi 0 (by omega)
        rw [hsz] at hc
        obtain ⟨_, hcl, hat⟩ := World.cells?_some hc
        have h2 := hat 0 hpos
        rw [List.getElem?_eq_getElem (by omega)] at h2
        have h3 := World.cell?_spot h2
        obtain ⟨b, o, sp⟩ := a
        simp only [Addr.add, Nat.zero_mul, if_true] at h3
        exact ⟨b, o, by simpa using h3⟩
      obtain ⟨b, o, rfl⟩ := hspot
      obtain ⟨l, hll, hlp⟩ := exists_list (fun k x => R w b (o + k * sz) x) len (fun i hil => by
        obtain ⟨cs', hc, htr⟩ := hi i (by omega)
        rw [hsz] at hc
        obtain ⟨_, hcl, hat⟩ := World.cells?_some hc
        refine hR n b (o + i * sz) cs' _ hcl (fun j u hj => ?_) htr
        have h4 := hat j (by have := (List.getElem?_eq_some_iff.1 hj).1; omega)
        rw [addr_add, addr_add, hj] at h4
        exact h4)
      exact ⟨l, some ⟨b, o, none⟩, cap, by rw [hll], by omega, hm, fun k x hk => ⟨b, o, rfl, hlp k x hk⟩⟩
end
theorem list1 {α : Type} {l : List α} (h : l.length = 1) : ∃ a, l = [a] := by
  match l, h with
  | [a], _ => exact ⟨a, rfl⟩
theorem list2 {α : Type} {l : List α} (h : l.length = 2) : ∃ a b, l = [a, b] := by
  match l, h with
  | [a, b], _ => exact ⟨a, b, rfl⟩
theorem list3 {α : Type} {l : List α} (h : l.length = 3) : ∃ a b c, l = [a, b, c] := by
  match l, h with
  | [a, b, c], _ => exact ⟨a, b, c, rfl⟩
theorem list4 {α : Type} {l : List α} (h : l.length = 4) : ∃ a b c d, l = [a, b, c, d] := by
  match l, h with
  | [a, b, c, d], _ => exact ⟨a, b, c, d, rfl⟩
theorem cells_int : Tryd.prog.cellsOf 3 = 1 := by kernel_rfl
theorem cells_ref : Tryd.prog.cellsOf 39 = 3 := by kernel_rfl
theorem cells_bnds : Tryd.prog.cellsOf 22 = 1 := by kernel_rfl
theorem cells_bnd : Tryd.prog.cellsOf 41 = 4 := by kernel_rfl
theorem cells_mat : Tryd.prog.cellsOf 24 = 1 := by kernel_rfl
section
variable {H : Type} {enc : TypeId × Value → H} {w : World} {base : Nat} {spare : Nat → Bool} {held : Bool}
theorem read_bnd (n b o : Nat) (cs : List Value) (y : DataW H × List MemPlace) (hl : cs.length = 4) (hc : ∀ (j : Nat) (u : Value), cs[j]? = some u → w.cell? ⟨b, o + j, none⟩ = some u)
    (h : DataW.trod enc Tryd.prog w base spare held n 41 cs = some y) : ∃ x, BndAt w b o x := by
  obtain ⟨c0, c1, c2, c3, rfl⟩ := list4 hl
  obtain ⟨xs, m, _, _, _, hxl, hf⟩ := DataW.trod_struct Tryd.underlying41 h
  obtain ⟨x0, x1, rfl⟩ := list2 (by simpa using hxl)
  have f0 := hf 0 _ rfl
  have f1 := hf 1 _ rfl
  simp [cells_int, cells_ref] at f0 f1
  obtain ⟨k0, e0, _⟩ := DataW.trod_int Tryd.underlying3 f0
  obtain ⟨ys, m2, _, _, _, hyl, hg⟩ := DataW.trod_struct Tryd.underlying39 f1
  obtain ⟨y0, y1, y2, rfl⟩ := list3 (by simpa using hyl)
  have g0 := hg 0 _ rfl
  have g1 := hg 1 _ rfl
  have g2 := hg 2 _ rfl
  simp [cells_int] at g0 g1 g2
  obtain ⟨k1, e1, _⟩ := DataW.trod_int Tryd.underlying3 g0
  obtain ⟨k2, e2, _⟩ := DataW.trod_int Tryd.underlying3 g1
  obtain ⟨k3, e3, _⟩ := DataW.trod_int Tryd.underlying3 g2
  simp only [List.cons.injEq, and_true] at e0 e1 e2 e3
  subst e0 e1 e2 e3
  exact ⟨⟨k0, k1, k2, k3⟩, hc 0 _ rfl, hc 1 _ rfl, hc 2 _ rfl, hc 3 _ rfl⟩
theorem read_bnds {fuel : Nat} {v : Value} {y : DataW H × List MemPlace} (h : DataW.trod enc Tryd.prog w base spare held fuel 22 [v] = some y) : ∃ l, IsBnds w v l :=
  open_sl Tryd.underlying22 cells_bnd (by decide) (fun n b o cs y h1 h2 h3 => read_bnd n b o cs y h1 h2 h3) h
theorem read_matc {n : Nat} {c : Value} {y : DataW H × List MemPlace} (h : DataW.trod enc Tryd.prog w base spare held n 24 [c] = some y) : ∃ l, IsBnds w c l := by
  obtain ⟨xs, m, _, _, _, hxl, hf⟩ := DataW.trod_struct Tryd.underlying24 h
  obtain ⟨x0, rfl⟩ := list1 (by simpa using hxl)
  have f0 := hf 0 _ rfl
  simp [cells_bnds] at f0
  exact read_bnds f0
theorem read_mat (n b o : Nat) (cs : List Value) (y : DataW H × List MemPlace) (hl : cs.length = 1) (hc : ∀ (j : Nat) (u : Value), cs[j]? = some u → w.cell? ⟨b, o + j, none⟩ = some u)
    (h : DataW.trod enc Tryd.prog w base spare held n 24 cs = some y) : ∃ x, MatAt w b o x := by
  obtain ⟨c0, rfl⟩ := list1 hl
  obtain ⟨l, hl⟩ := read_matc h
  exact ⟨l, c0, hl, hc 0 _ rfl⟩
theorem read_mats {fuel : Nat} {v : Value} {y : DataW H × List MemPlace} (h : DataW.trod enc Tryd.prog w base spare held fuel 26 [v] = some y) : ∃ l, IsMats w v l :=
  open_sl Tryd.underlying26 cells_mat (by decide) (fun n b o cs y h1 h2 h3 => read_mat n b o cs y h1 h2 h3) h
end
theorem own_none : ownKnob Tryd.prog.godebug = none := by kernel_rfl
theorem laid_out : laidOutB Tryd.prog = true := by kernel_rfl
abbrev theLaid : List (String × DataW Unit) := [("math/bits.deBruijn32tab", Rows.laid_math_bits_deBruijn32tab), ("math/bits.deBruijn64tab", Rows.laid_math_bits_deBruijn64tab), ("internal/strconv.uint64pow10", Rows.laid_internal_strconv_uint64pow10)]
theorem door_met (os : Os) (args : Array Value) : laidMetH Tryd.prog theLaid ((World.doorLaid Tryd.prog 400 os).forCall (fun _ _ => 0) ⟨#[], args, []⟩).memory :=
  laidMetH_of_parts3 (fuel := 8) (laidMet_of_run' 8 (by kernel_rfl) (by kernel_rfl)) (by kernel_rfl) (by kernel_rfl)
theorem tab_of_laid {W : World} (h : laidMetH Tryd.prog theLaid W) : Tab W := by
  rw [MakeChecks.laidMetH_plain _ _ _ (by kernel_rfl)] at h
  have h2 : laidMet Tryd.prog (("internal/strconv.uint64pow10", Lib.tabData .u64 Lib.pow10Tab) :: []) W := h.tail.tail
  exact Lib.tabIs_of_head (g := 1) (t := 149) (e := 126) (n := 20) (by kernel_rfl) (by kernel_rfl) (by kernel_rfl) (by kernel_rfl) (by kernel_rfl) (by kernel_rfl) h2
end
end Go.Proofs.YtclpglgigpjfoaaDoor
