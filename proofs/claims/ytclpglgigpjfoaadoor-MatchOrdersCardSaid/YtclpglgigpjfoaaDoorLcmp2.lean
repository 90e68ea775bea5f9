/- slices.CompareFunc at bindings, match.Compare, ledger.compare. -/
import Derived.Test.YtclpglgigpjfoaaDoorLcmp
namespace Go.Proofs.YtclpglgigpjfoaaDoor
open Go.RowKit

theorem bsC_both {l m : List Bnd} {k : Nat} {x y : Bnd} (hx : l[k]? = some x) (hy : m[k]? = some y) : bsC (l.drop k) (m.drop k) = orI (bndC x y) (bsC (l.drop (k + 1)) (m.drop (k + 1))) := by
  obtain ⟨h1, rfl⟩ := List.getElem?_eq_some_iff.1 hx
  obtain ⟨h2, rfl⟩ := List.getElem?_eq_some_iff.1 hy
  rw [List.drop_eq_getElem_cons h1, List.drop_eq_getElem_cons h2]
  rfl
theorem bsC_left {l m : List Bnd} {k : Nat} {x : Bnd} (hx : l[k]? = some x) (hy : m.length ≤ k) : bsC (l.drop k) (m.drop k) = 1 := by
  obtain ⟨h1, rfl⟩ := List.getElem?_eq_some_iff.1 hx
  rw [List.drop_eq_getElem_cons h1, List.drop_eq_nil_of_le hy]
  rfl
theorem bsC_end {l m : List Bnd} {k : Nat} (hx : l.length ≤ k) : bsC (l.drop k) (m.drop k) = if k < m.length then -1 else 0 := by
  rw [List.drop_eq_nil_of_le hx]
  by_cases h : k < m.length
  · rw [if_pos h, List.drop_eq_getElem_cons h]; rfl
  · rw [if_neg h, List.drop_eq_nil_of_le (by omega)]; rfl

set_option maxRecDepth 100000 in
set_option maxHeartbeats 1000000 in
theorem compareFunc_any (l m : List Bnd) (v1 v2 : Value) (w : World) (hl : IsBnds w v1 l) (hm : IsBnds w v2 m) :
    Calls Tryd.prog 22 #[v1, v2, .func (.func 23) #[] #[]] w fun e w' => e = .returned (.int .i64 (bsC l m)) ∧ Gr w w' := by
  obtain ⟨A, c, rfl, h1, h2, hat⟩ := hl
  have hn := len_i64 h1 h2
  have HL := Lib.hid hat
  clear hat h1 h2
  obtain ⟨B, d, rfl, h1, h2, hat⟩ := hm
  have hn2 := len_i64 h1 h2
  have HM := Lib.hid hat
  clear hat h1 h2
  go_enter Tryd.func22, Tryd.ntmps22
  go_wp2_with fail
  go_loopw [13] (fun i wr => ∃ k : Nat, k ≤ l.length ∧ k ≤ m.length ∧ i = .int .i64 k ∧ Hid (bsC (l.drop k) (m.drop k) = bsC l m) ∧ Gr w wr) (fun i _ => l.length - (intOf i).toNat)
  case atStart => exact ⟨0, Nat.zero_le _, Nat.zero_le _, rfl, by exact Lib.hid rfl, Gr.refl _⟩
  case round =>
    obtain ⟨k, hk, hkm, rfl, hi, hb⟩ := hrel
    by_cases hlt : k < l.length
    · obtain ⟨b, o, rfl, c0, c1, c2, c3⟩ := HL.out k l[k] (List.getElem?_eq_getElem hlt)
      replace c0 := cell_stays hb.below c0
      replace c1 := cell_stays hb.below c1
      replace c2 := cell_stays hb.below c2
      replace c3 := cell_stays hb.below c3
      have hget := Lib.hid (List.getElem?_eq_getElem hlt)
      obtain ⟨x, hx⟩ : ∃ x, x = l[k] := ⟨_, rfl⟩
      rw [← hx] at hget c0 c1 c2 c3
      clear hx
      have hk' : (k : Int) < (l.length : Int) := by omega
      by_cases hlm : k < m.length
      · obtain ⟨b2, o2, rfl, d0, d1, d2, d3⟩ := HM.out k m[k] (List.getElem?_eq_getElem hlm)
        replace d0 := cell_stays hb.below d0
        replace d1 := cell_stays hb.below d1
        replace d2 := cell_stays hb.below d2
        replace d3 := cell_stays hb.below d3
        have hget2 := Lib.hid (List.getElem?_eq_getElem hlm)
        obtain ⟨y, hy⟩ : ∃ y, y = m[k] := ⟨_, rfl⟩
        rw [← hy] at hget2 d0 d1 d2 d3
        clear hy
        have hlt2 : b2 < wr.heap.size := World.block_lt_of_cell? wr ⟨b2, _, none⟩ d0
        have hne1 : b2 ≠ wr.heap.size := by omega
        have hne2 : wr.heap.size ≠ b2 := by omega
        have hne3 : b2 ≠ wr.heap.size + 1 := by omega
        have hne4 : wr.heap.size + 1 ≠ b2 := by omega
        have hk2 : ¬ ((m.length : Int) ≤ (k : Int)) := by omega
        have hk3 : (k : Int) < (m.length : Int) := by omega
        obtain ⟨r, hr⟩ : ∃ r, bndC x y = r := ⟨_, rfl⟩
        have HR := Lib.hid hr
        clear hr
        go_wp2_with fail
        refine (bnds_any x y _).mono ?_
        rw [HR.out]
        rintro e w' ⟨rfl, hg⟩
        have hg' : Gr w w' := hb.trans (Gr.trans (by repeat (first | exact Gr.refl _ | assumption | refine Gr.drew ?_ | refine Gr.alloc ?_ _ | refine Gr.set ?_ (by omega) _ | refine Gr.trans ?_ (by assumption))) hg)
        by_cases hr0 : r = 0
        · subst hr0
          go_wp2_with fail
          go_roundw
          case rel =>
            refine ⟨k + 1, by omega, by omega, by go_num, ?_, hg'⟩
            have := hi.out
            rw [bsC_both hget.out hget2.out, HR.out] at this
            exact Lib.hid this
          case measure => simp [intOf]; omega
        · have hr' : (r != 0) = true := by simpa using hr0
          have HR0 := Lib.hid hr0
          clear hr0
          go_wp2_with fail
          go_ret
          have := hi.out
          rw [bsC_both hget.out hget2.out, HR.out, orI, if_neg HR0.out] at this
          rw [← this]
          exact ⟨rfl, hg'⟩
      · have hk2 : (m.length : Int) ≤ (k : Int) := by omega
        go_wp2_with fail
        go_ret
        have := hi.out
        rw [bsC_left hget.out (by omega)] at this
        rw [← this]
        exact ⟨rfl, hb.trans (by repeat (first | exact Gr.refl _ | assumption | refine Gr.drew ?_ | refine Gr.alloc ?_ _ | refine Gr.set ?_ (by omega) _ | refine Gr.trans ?_ (by assumption)))⟩
    · have he := hi.out
      rw [bsC_end (by omega)] at he
      have HE := Lib.hid he
      clear he
      have hkl : l.length = k := by omega
      by_cases hlm : k < m.length
      · have hlm' : (l.length : Int) < (m.length : Int) := by omega
        go_wp2_with fail
        go_ret
        have := HE.out
        rw [if_pos hlm] at this
        rw [← this]
        exact ⟨rfl, hb⟩
      · have hlm' : ¬ ((l.length : Int) < (m.length : Int)) := by omega
        go_wp2_with fail
        go_ret
        have := HE.out
        rw [if_neg hlm] at this
        rw [← this]
        exact ⟨rfl, hb⟩

set_option maxHeartbeats 1000000 in
theorem mcompare_any (l m : List Bnd) (v1 v2 : Value) (w : World) (hl : IsBnds w v1 l) (hm : IsBnds w v2 m) :
    Calls Tryd.prog 9 #[matV v1, matV v2] w fun e w' => e = .returned (.int .i64 (bsC l m)) ∧ Gr w w' := by
  unfold matV
  have HL := Lib.hid hl
  have HM := Lib.hid hm
  obtain ⟨A, c, rfl, -, -, -⟩ := hl
  obtain ⟨B, d, rfl, -, -, -⟩ := hm
  go_enter Tryd.func9, Tryd.ntmps9
  go_wp2_with (go_at_call 22; refine (compareFunc_any l m _ _ _ (HL.out.stays bndAt_stays (Gr.below (by repeat (first | exact Gr.refl _ | assumption | refine Gr.drew ?_ | refine Gr.alloc ?_ _ | refine Gr.set ?_ (by omega) _ | refine Gr.trans ?_ (by assumption))))) (HM.out.stays bndAt_stays (Gr.below (by repeat (first | exact Gr.refl _ | assumption | refine Gr.drew ?_ | refine Gr.alloc ?_ _ | refine Gr.set ?_ (by omega) _ | refine Gr.trans ?_ (by assumption)))))).mono ?_; rintro e w2 ⟨rfl, hg2⟩)
  go_ret
  exact ⟨rfl, (by repeat (first | exact Gr.refl _ | assumption | refine Gr.drew ?_ | refine Gr.alloc ?_ _ | refine Gr.set ?_ (by omega) _ | refine Gr.trans ?_ (by assumption)))⟩

theorem orI_c (a b : Int) : orI a b = if a = 0 then b else a := rfl
end Go.Proofs.YtclpglgigpjfoaaDoor
