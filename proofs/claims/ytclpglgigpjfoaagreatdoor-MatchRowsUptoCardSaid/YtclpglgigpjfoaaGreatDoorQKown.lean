/- Collected by program (collect.py) out of my templates Lled Lidx Lled2 Lown Ldel Lnew Lsort Lkey Lkey2 Ltot1 Ltot2 Lled3 Lfun Lapp Lstand Ldiff Lrev Lcomp Lsortm Lstep Ldiff2 Lpl2 Ldiff3 Lsingle Lsame Lsame2 Lawake Lmsort Lof Lradd Lfew Lsmall Llaws Lrsum Lrput Lrsort Lopen: what the contracts Tab, Tab.stays, kept_other, info_u8, cloneB_any, setCells_grown, setCells_row, grown_tr, below_grown, set_grown, own_cur, sl_imp, info_mat, vals_at, sl_form, exists_list lean on. -/
import Derived.Test.YtclpglgigpjfoaaGreatDoorQLcmp
import Derived.Test.YtclpglgigpjfoaaGreatDoorRows
import Derived.Lib.LaidTab
import Derived.Lib.AppendIntMem
import Derived.OwnWalk
import Derived.Lib.SliceRun
import Derived.Shelf.Abstract
import Derived.SevenTiedAt
import Derived.ProofKit
import Derived.OpenShut
import Derived.Deep.Slices
import Derived.LaidMore
import Derived.Stop.LaidErr
import Derived.Stop.Joined
namespace Go.Proofs.YtclpglgigpjfoaaGreatDoor
section
open Go.RowKit
/-- a new row with these cells is handed back; what was there is as it was -/
def OwnRet (e sz n : Nat) (cs : List Value) (w : World) (x : Ending) (w' : World) : Prop := ∃ v', x = .returned v' ∧ w'.ownsRow w.heap.size e sz v' n cs ∧ Below w.heap.size w w'
theorem info_bnd : (Tryz.prog.info? 79).map (fun i => (i.zero, i.size, i.bytes)) = some (some (.agg #[.int .i64 0, .int .i64 0, .int .i64 0, .int .i64 0]), 4, 32) := by kernel_rfl
theorem info_mat : (Tryz.prog.info? 24).map (fun i => (i.zero, i.size, i.bytes)) = some (some (.agg #[.slice none 0 0]), 1, 24) := by kernel_rfl
theorem cloneBnds (A : Option Addr) (n c : Nat) (cs : List Value) (w : World) (hs : Src w A n 4 cs) (hn : n ≤ 1048576) :
    Calls Tryz.prog 56 #[.slice A n c] w (OwnRet 79 4 n cs w) := by
  obtain ⟨i0, hi, hz0, hz1, hz2⟩ := info_parts info_bnd
  have he := fun W => Lib.run_eql_slice_nil W 22 79 A n c 0 0 Tryz.underlying22
  cases A with
  | none =>
    have h0 : n = 0 := by
      rcases Nat.eq_zero_or_pos n with h | h
      · exact h
      · obtain ⟨b, o, hA, _⟩ := hs.2.2 h; cases hA
    subst h0
    have hcs : cs = [] := List.eq_nil_of_length_eq_zero (by simpa using hs.1)
    subst hcs
    clear hs
    go_enter Tryz.func56, Tryz.ntmps56
    go_wp2
    go_ret
    exact ⟨_, rfl, ⟨by simp, .inl ⟨rfl, rfl⟩⟩, Below.refl _ _⟩
  | some ad =>
    have HS := Lib.hid hs
    clear hs
    go_enter Tryz.func56, Tryz.ntmps56
    go_wp2_with (at_builtin; refine wpList_app _ rfl (.tmp 5) (.tmp 6) 22 rfl w.heap.size 79 i0 _ 4 32 Tryz.underlying22 hi hz0 hz1 hz2 rfl (by decide) (.slice (some ⟨w.heap.size, 0, none⟩) 0 0) 0 [] rfl (ownsRow_empty w _ _ _ (Nat.le_refl _)) (some ad) n c cs rfl (HS.out.stays (bel_al (Below.refl _ _) _)) (by unfold maxLen; omega) (by omega) (by simp) ?_; intro v1 w1 hown hg hloc)
    go_ret
    exact ⟨_, rfl, by simpa using hown, (bel_al (Below.refl _ _) _).trans (grown_below hg (by simp) (fun g h => Nat.le_of_eq (by simpa [Value.ownBlock] using h)))⟩
/-- bindings in memory that was not there -/
def NewBnds (B : Nat) (w : World) (v : Value) (l : List Bnd) : Prop := IsBnds w v l ∧ ∀ g, v.ownBlock = some g → B ≤ g ∧ g < w.heap.size
end
section
open Go.RowKit
theorem setCells_row {_w : World} {g t : Nat} : ∀ (Z : List Value) (o : Nat) (cur : List Value) (w : World), w.heap[g]? = some (.cells cur.toArray t (0, 0)) → ∃ cur' : List Value, (w.setCells g o Z).heap[g]? = some (.cells cur'.toArray t (0, 0)) ∧ cur'.length = cur.length ∧ cur'.take o = cur.take o
  | [], o, cur, w, h => ⟨cur, h, rfl, rfl⟩
  | z :: Z, o, cur, w, h => by
    obtain ⟨cur', h1, h2, h3⟩ := setCells_row (_w := w) Z (o + 1) (cur.set o z) (w.setCell ⟨g, o, none⟩ z) (blk_set h o z)
    refine ⟨cur', h1, by rw [h2, List.length_set], ?_⟩
    have := congrArg (List.take o) h3
    rw [List.take_take, List.take_take, Nat.min_eq_left (by omega)] at this
    rw [this, List.take_set_of_le (Nat.le_refl _)]
theorem setCells_grown (g : Nat) : ∀ (Z : List Value) (o : Nat) (w : World), w.grownBy (w.setCells g o Z) (some g)
  | [], _, w => World.grownBy.refl w _
  | z :: Z, o, w => by
    have h1 : w.grownBy (w.setCell ⟨g, o, none⟩ z) (some g) := ⟨rfl, rfl, rfl, by simp, fun k hk hne => Below.heap_setCell w _ z k (by intro e; exact hne (by rw [e]))⟩
    have h2 := setCells_grown g Z (o + 1) (w.setCell ⟨g, o, none⟩ z)
    exact ⟨h2.os.trans h1.os, h2.tape.trans h1.tape, h2.output.trans h1.output, Nat.le_trans h1.size h2.size, fun k hk hne => (h2.block k (Nat.lt_of_lt_of_le hk h1.size) hne).trans (h1.block k hk hne)⟩
theorem grown_tr {a b c : World} {r : Option Nat} (h : a.grownBy b r) (k : b.grownBy c r) : a.grownBy c r :=
  ⟨k.os.trans h.os, k.tape.trans h.tape, k.output.trans h.output, Nat.le_trans h.size k.size, fun i hi hne => (k.block i (Nat.lt_of_lt_of_le hi h.size) hne).trans (h.block i hi hne)⟩
theorem below_grown {a b : World} (h : Below a.heap.size a b) (r : Option Nat) : a.grownBy b r := ⟨h.os, h.tape, h.output, h.size, fun i hi _ => h.block i hi⟩
theorem set_grown (w : World) (g o : Nat) (v : Value) : w.grownBy (w.setCell ⟨g, o, none⟩ v) (some g) := setCells_grown g [v] o w
end
section
open Go.RowKit
theorem sl_imp {α : Type} {R S : World → Nat → Nat → α → Prop} {sz : Nat} {w W : World} {v : Value} {l : List α} (h : Sl R sz w v l) (hi : ∀ b p x, R w b p x → S W b p x) : Sl S sz W v l := by
  obtain ⟨A, c, hv, h1, h2, h3⟩ := h
  refine ⟨A, c, hv, h1, h2, fun k x hk => ?_⟩
  obtain ⟨b, o, hA, hx⟩ := h3 k x hk
  exact ⟨b, o, hA, hi _ _ _ hx⟩
end
section
open Go.RowKit
/-- the library's table of powers of ten lies as its text lays it -/
def Tab (w : World) : Prop := Lib.TabIs Tryz.prog w "internal/strconv.uint64pow10" .u64 Lib.pow10Tab
theorem Tab.stays {w w' : World} (h : Tab w) (hb : Below w.heap.size w w') : Tab w' := Lib.tabBelow_of_tabIs h w' hb
theorem info_u8 : (Tryz.prog.info? 5).map (fun i => (i.zero, i.size, i.bytes)) = some (some (.int .u8 0), 1, 1) := by kernel_rfl
theorem kept_other {t : TypeId} {w w' : World} (h : Lib.OthersKept 5 none w w') {g : Nat} {cs : Array Value} (hg : w.heap[g]? = some (.cells cs t (0, 0))) (ht : t ≠ 5) : w'.heap[g]? = some (.cells cs t (0, 0)) :=
  h g _ hg (by simp) (fun c fz e => by injection e with _ e2 _; exact ht e2)
end
section
open Go.RowKit
theorem own_cur {W : World} {base e sz n : Nat} {v : Value} {xs : List Value} (h : W.ownsRow base e sz v n xs) :
    (v = .slice none 0 0 ∧ n = 0) ∨ ∃ g cap spare, v = .slice (some ⟨g, 0, none⟩) n cap ∧ base ≤ g ∧ W.heap[g]? = some (.cells (xs ++ spare).toArray e (0, 0)) ∧ n ≤ cap ∧ cap ≤ maxLen ∧ (xs ++ spare).length = cap * sz ∧ xs.length = n * sz := by
  rcases h.2 with h0 | ⟨g, cap, cur, hv, hg, hh, hnc, hcm, hcs, htake⟩
  · exact .inl h0
  · have hcur : cur.toList = xs ++ cur.toList.drop (n * sz) := by rw [← htake, List.take_append_drop]
    refine .inr ⟨g, cap, cur.toList.drop (n * sz), hv, hg, by rw [← hcur]; exact hh, hnc, hcm, by rw [← hcur]; simpa using hcs, h.1⟩
end
section
open Go.RowKit Go.Shelf
abbrev MV := List Bnd × Value
theorem sl_form {α : Type} {R : World → Nat → Nat → α → Prop} {sz : Nat} {w : World} {v : Value} {l : List α} (h : Sl R sz w v l) : ∃ A c, v = .slice A l.length c := by
  obtain ⟨A, c, hv, -⟩ := h; exact ⟨A, c, hv⟩
theorem vals_at {l : List MV} {k : Nat} {e : MV} (h : l[k]? = some e) (r : List Value) : (l.map (·.2) ++ r)[k]? = some e.2 := by
  rw [List.getElem?_append_left (by rw [List.length_map]; exact (List.getElem?_eq_some_iff.1 h).1), List.getElem?_map, h]; rfl
end
section
open Go.RowKit Go.Shelf
theorem cloneB_any (l : List Bnd) (v : Value) (w : World) (hl : IsBnds w v l) (hn : l.length ≤ 1048576) :
    Calls Tryz.prog 56 #[v] w fun e w' => ∃ v', e = .returned v' ∧ NewBnds w.heap.size w' v' l ∧ Below w.heap.size w w' := by
  obtain ⟨A, c, rfl, h1, h2, hat⟩ := hl
  obtain ⟨cs, hm, hs, -⟩ := means_of_sl bndAt_movable ⟨A, c, rfl, h1, h2, hat⟩
  refine (cloneBnds A l.length c cs w hs hn).mono ?_
  rintro e w3 ⟨v3, rfl, ho3, hb3⟩
  exact ⟨v3, rfl, ⟨sl_of_means hm hb3 ho3, fun g hg => ownsRow_lt ho3 hg⟩, hb3⟩
end
section
open Go.ChangeShapes Go.WideShapes Go.ChangeAt Go.RowKit Go.Deep
theorem exists_list {α : Type} (Pr : Nat → α → Prop) : ∀ (n : Nat), (∀ i, i < n → ∃ x, Pr i x) → ∃ l : List α, l.length = n ∧ ∀ (k : Nat) (x : α), l[k]? = some x → Pr k x
  | 0, _ => ⟨[], rfl, fun k x h => by simp at h⟩
  | n + 1, h => by
    obtain ⟨l, hl, hp⟩ := exists_list Pr n (fun i hi => h i (by omega))
    obtain ⟨x, hx⟩ := h n (by omega)
    refine ⟨l ++ [x], by simp [hl], fun k y hk => ?_⟩
    rcases Nat.lt_or_ge k l.length with h1 | h1
    · rw [List.getElem?_append_left h1] at hk; exact hp k y hk
    · rw [List.getElem?_append_right h1] at hk
      obtain ⟨h2, h3⟩ := List.getElem?_eq_some_iff.1 hk
      simp only [List.length_singleton] at h2
      obtain rfl : k = n := by omega
      simp at h3
      subst h3
      exact hx
section
variable {H : Type} {enc : TypeId × Value → H} {P : Program} {w : World} {base : Nat} {spare : Nat → Bool} {held : Bool}
end
section
variable {H : Type} {enc : TypeId × Value → H} {w : World} {base : Nat} {spare : Nat → Bool} {held : Bool}
end
end
end Go.Proofs.YtclpglgigpjfoaaGreatDoor
namespace Go.Proofs.YtclpglgigpjfoaaGreatDoor
section
open Go.ChangeShapes Go.WideShapes Go.ChangeAt Go.RowKit Go.Deep
section
variable {H : Type} {enc : TypeId × Value → H} {P : Program} {w : World} {base : Nat} {spare : Nat → Bool} {held : Bool}
theorem open_sl {α : Type} {R : World → Nat → Nat → α → Prop} {sz : Nat} {t e : TypeId} (ht : P.underlying t = some (.slice e)) (hsz : P.cellsOf e = sz) (hpos : 0 < sz)
    (hR : ∀ (n b o : Nat) (cs : List Value) (y : DataW H × List MemPlace), cs.length = sz → (∀ (j : Nat) (u : Value), cs[j]? = some u → w.cell? ⟨b, o + j, none⟩ = some u) → DataW.trod enc P w base spare held n e cs = some y → ∃ x, R w b o x)
    {fuel : Nat} {v : Value} {y : DataW H × List MemPlace} (h : DataW.trod enc P w base spare held fuel t [v] = some y) : ∃ l : List α, Sl R sz w v l := by
  rcases open_slice ht h with ⟨hcs, _⟩ | ⟨a, len, cap, m, n, D, Pl, hcs, _, hl, hm, hmm, _, hi⟩
  · simp only [List.cons.injEq, and_true] at hcs
    subst hcs
    exact ⟨[], Sl.nil _ _ _ _ _ (Nat.zero_le _)⟩
  · simp only [List.cons.injEq, and_true] at hcs
    subst hcs
    have hlm : len ≤ m := by rw [hmm]; split <;> omega
    rcases Nat.eq_zero_or_pos len with h0 | h0
    · subst h0
      exact ⟨[], Sl.nil _ _ _ _ _ hm⟩
    · have hspot : ∃ b o, a = ⟨b, o, none⟩ := by
        obtain ⟨cs', hc, _⟩ := hi 0 (by omega)
        rw [hsz] at hc
        obtain ⟨_, hcl, hat⟩ := World.cells?_some hc
        have h2 := hat 0 hpos
        rw [List.getElem?_eq_getElem (by omega)] at h2
        have h3 := World.cell?_spot h2
        obtain ⟨b, o, sp⟩ := a
        simp only [Addr.add, Nat.zero_mul, if_true] at h3
        exact ⟨b, o, by simpa using h3⟩
      obtain ⟨b, o, rfl⟩ := hspot
      obtain ⟨l, hll, hlp⟩ := exists_list (fun k x => R w b (o + k * sz) x) len (fun i hil => by
        obtain ⟨cs', hc, htr⟩ := hi i (by omega)
        rw [hsz] at hc
        obtain ⟨_, hcl, hat⟩ := World.cells?_some hc
        refine hR n b (o + i * sz) cs' _ hcl (fun j u hj => ?_) htr
        have h4 := hat j (by have := (List.getElem?_eq_some_iff.1 hj).1; omega)
        rw [addr_add, addr_add, hj] at h4
        exact h4)
      exact ⟨l, some ⟨b, o, none⟩, cap, by rw [hll], by omega, hm, fun k x hk => ⟨b, o, rfl, hlp k x hk⟩⟩
end
theorem list1 {α : Type} {l : List α} (h : l.length = 1) : ∃ a, l = [a] := by
  match l, h with
  | [a], _ => exact ⟨a, rfl⟩
theorem list2 {α : Type} {l : List α} (h : l.length = 2) : ∃ a b, l = [a, b] := by
  match l, h with
  | [a, b], _ => exact ⟨a, b, rfl⟩
theorem list3 {α : Type} {l : List α} (h : l.length = 3) : ∃ a b c, l = [a, b, c] := by
  match l, h with
  | [a, b, c], _ => exact ⟨a, b, c, rfl⟩
theorem list4 {α : Type} {l : List α} (h : l.length = 4) : ∃ a b c d, l = [a, b, c, d] := by
  match l, h with
  | [a, b, c, d], _ => exact ⟨a, b, c, d, rfl⟩
theorem cells_int : Tryz.prog.cellsOf 3 = 1 := by kernel_rfl
theorem cells_ref : Tryz.prog.cellsOf 74 = 3 := by kernel_rfl
theorem cells_bnds : Tryz.prog.cellsOf 22 = 1 := by kernel_rfl
theorem cells_bnd : Tryz.prog.cellsOf 79 = 4 := by kernel_rfl
theorem cells_mat : Tryz.prog.cellsOf 24 = 1 := by kernel_rfl
section
variable {H : Type} {enc : TypeId × Value → H} {w : World} {base : Nat} {spare : Nat → Bool} {held : Bool}
theorem read_bnd (n b o : Nat) (cs : List Value) (y : DataW H × List MemPlace) (hl : cs.length = 4) (hc : ∀ (j : Nat) (u : Value), cs[j]? = some u → w.cell? ⟨b, o + j, none⟩ = some u)
    (h : DataW.trod enc Tryz.prog w base spare held n 79 cs = some y) : ∃ x, BndAt w b o x := by
  obtain ⟨c0, c1, c2, c3, rfl⟩ := list4 hl
  obtain ⟨xs, m, _, _, _, hxl, hf⟩ := DataW.trod_struct Tryz.underlying79 h
  obtain ⟨x0, x1, rfl⟩ := list2 (by simpa using hxl)
  have f0 := hf 0 _ rfl
  have f1 := hf 1 _ rfl
  simp [cells_int, cells_ref] at f0 f1
  obtain ⟨k0, e0, _⟩ := DataW.trod_int Tryz.underlying3 f0
  obtain ⟨ys, m2, _, _, _, hyl, hg⟩ := DataW.trod_struct Tryz.underlying74 f1
  obtain ⟨y0, y1, y2, rfl⟩ := list3 (by simpa using hyl)
  have g0 := hg 0 _ rfl
  have g1 := hg 1 _ rfl
  have g2 := hg 2 _ rfl
  simp [cells_int] at g0 g1 g2
  obtain ⟨k1, e1, _⟩ := DataW.trod_int Tryz.underlying3 g0
  obtain ⟨k2, e2, _⟩ := DataW.trod_int Tryz.underlying3 g1
  obtain ⟨k3, e3, _⟩ := DataW.trod_int Tryz.underlying3 g2
  simp only [List.cons.injEq, and_true] at e0 e1 e2 e3
  subst e0 e1 e2 e3
  exact ⟨⟨k0, k1, k2, k3⟩, hc 0 _ rfl, hc 1 _ rfl, hc 2 _ rfl, hc 3 _ rfl⟩
theorem read_bnds {fuel : Nat} {v : Value} {y : DataW H × List MemPlace} (h : DataW.trod enc Tryz.prog w base spare held fuel 22 [v] = some y) : ∃ l, IsBnds w v l :=
  open_sl Tryz.underlying22 cells_bnd (by decide) (fun n b o cs y h1 h2 h3 => read_bnd n b o cs y h1 h2 h3) h
theorem read_matc {n : Nat} {c : Value} {y : DataW H × List MemPlace} (h : DataW.trod enc Tryz.prog w base spare held n 24 [c] = some y) : ∃ l, IsBnds w c l := by
  obtain ⟨xs, m, _, _, _, hxl, hf⟩ := DataW.trod_struct Tryz.underlying24 h
  obtain ⟨x0, rfl⟩ := list1 (by simpa using hxl)
  have f0 := hf 0 _ rfl
  simp [cells_bnds] at f0
  exact read_bnds f0
theorem read_mat (n b o : Nat) (cs : List Value) (y : DataW H × List MemPlace) (hl : cs.length = 1) (hc : ∀ (j : Nat) (u : Value), cs[j]? = some u → w.cell? ⟨b, o + j, none⟩ = some u)
    (h : DataW.trod enc Tryz.prog w base spare held n 24 cs = some y) : ∃ x, MatAt w b o x := by
  obtain ⟨c0, rfl⟩ := list1 hl
  obtain ⟨l, hl⟩ := read_matc h
  exact ⟨l, c0, hl, hc 0 _ rfl⟩
theorem read_mats {fuel : Nat} {v : Value} {y : DataW H × List MemPlace} (h : DataW.trod enc Tryz.prog w base spare held fuel 26 [v] = some y) : ∃ l, IsMats w v l :=
  open_sl Tryz.underlying26 cells_mat (by decide) (fun n b o cs y h1 h2 h3 => read_mat n b o cs y h1 h2 h3) h
end
theorem own_none : ownKnob Tryz.prog.godebug = none := by kernel_rfl
theorem laid_out : laidOutB Tryz.prog = true := by kernel_rfl
abbrev theLaid : List (String × DataW Unit) := [("math/bits.deBruijn32tab", Rows.laid_math_bits_deBruijn32tab), ("math/bits.deBruijn64tab", Rows.laid_math_bits_deBruijn64tab), ("internal/strconv.uint64pow10", Rows.laid_internal_strconv_uint64pow10)]
theorem door_met (os : Os) (args : Array Value) : laidMetH Tryz.prog theLaid ((World.doorLaid Tryz.prog 400 os).forCall (fun _ _ => 0) ⟨#[], args, []⟩).memory :=
  laidMetH_of_parts3 (fuel := 8) (laidMet_of_run' 8 (by kernel_rfl) (by kernel_rfl)) (by kernel_rfl) (by kernel_rfl)
theorem tab_of_laid {W : World} (h : laidMetH Tryz.prog theLaid W) : Tab W := by
  rw [MakeChecks.laidMetH_plain _ _ _ (by kernel_rfl)] at h
  have h2 : laidMet Tryz.prog (("internal/strconv.uint64pow10", Lib.tabData .u64 Lib.pow10Tab) :: []) W := h.tail.tail
  exact Lib.tabIs_of_head (g := 1) (t := 245) (e := 181) (n := 20) (by kernel_rfl) (by kernel_rfl) (by kernel_rfl) (by kernel_rfl) (by kernel_rfl) (by kernel_rfl) h2
end
end Go.Proofs.YtclpglgigpjfoaaGreatDoor
