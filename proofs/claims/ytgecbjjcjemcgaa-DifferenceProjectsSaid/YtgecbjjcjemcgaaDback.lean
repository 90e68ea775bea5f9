/- The last bounds backwards, once around: the iterator. -/
import Derived.Test.YtgecbjjcjemcgaaDrelax
import Derived.RangeFuncBox
import Derived.RangeFuncNested
import Derived.RangeFuncBound
import Derived.RangeFuncCalls
import Derived.RangeFuncLeaves
import Derived.Shelf.Abstract
import Derived.WalkKit
import Derived.OwnWalkIn
import Derived.TacticsInMore
import Derived.LoopNIn
import Derived.LoopIn
namespace Go.Proofs.Ytgecbjjcjemcgaa
open Go.RowKit Go.Shelf

attribute [local go_sem] Oper.semAt_some

/-- the numbers of the bounds on the way back -/
def cycL (bs : List Ed) (l : List Int) (v k : Nat) : List Int := (List.range k).map fun j => gd l (back bs l v j)
theorem cycL_succ (bs : List Ed) (l : List Int) (v k : Nat) : cycL bs l v (k + 1) = cycL bs l v k ++ [gd l (back bs l v k)] := by simp [cycL, List.range_succ]
theorem cycL_length (bs : List Ed) (l : List Int) (v k : Nat) : (cycL bs l v k).length = k := by simp [cycL]

theorem cyc_inj {n : Nat} {bs : List Ed} {l : List Int} {v L : Nat} (h : Cyc n bs l v L) {i j : Nat} (hi : i < L) (hj : j < L) (he : back bs l v i = back bs l v j) : i = j := by
  have key : ∀ i j, i < j → j < L → back bs l v i ≠ back bs l v j := by
    intro i j hij hj he
    have h1 := back_add bs l v i (L - j)
    have h2 := back_add bs l v j (L - j)
    rw [he, ← h2, show j + (L - j) = L by omega, h.home] at h1
    exact h.away (i + (L - j)) (by omega) (by omega) h1
  rcases Nat.lt_trichotomy i j with h1 | h1 | h1
  · exact absurd he (key i j h1 hj)
  · exact h1
  · exact absurd he.symm (key j i h1 hi)

open Classical in
/-- how many steps are left -/
noncomputable def leftC (bs : List Ed) (l : List Int) (v L : Nat) (x : Value) : Nat := if h : ∃ k, k < L ∧ x = .int .i64 (back bs l v k : Int) then L - Classical.choose h else 0
theorem leftC_eq {n : Nat} {bs : List Ed} {l : List Int} {v L : Nat} (h : Cyc n bs l v L) {k : Nat} (hk : k < L) : leftC bs l v L (.int .i64 (back bs l v k : Int)) = L - k := by
  have hex : ∃ j, j < L ∧ (Value.int .i64 (back bs l v k : Int)) = .int .i64 (back bs l v j : Int) := ⟨k, hk, rfl⟩
  unfold leftC
  rw [dif_pos hex]
  obtain ⟨h1, h2⟩ := Classical.choose_spec hex
  injection h2 with _ h2
  rw [← cyc_inj h hk h1 (by omega)]

/-- what lies below n0 is as it was, but for block cb -/
def KC (cb n0 : Nat) (W W' : World) : Prop := ∀ b, b < n0 → b ≠ cb → W'.heap[b]? = W.heap[b]?
theorem KC.refl (cb n0 : Nat) (W : World) : KC cb n0 W W := fun _ _ _ => rfl
theorem KC.trans {cb n0 : Nat} {A B C : World} (h1 : KC cb n0 A B) (h2 : KC cb n0 B C) : KC cb n0 A C := fun b hb hn => (h2 b hb hn).trans (h1 b hb hn)
theorem KC.drew {cb n0 : Nat} {A B : World} (h : KC cb n0 A B) : KC cb n0 A B.drew := h
theorem KC.cell {cb n0 : Nat} {A B : World} (h : KC cb n0 A B) {b p : Nat} {v : Value} (hb : b < n0) (hn : b ≠ cb) (hc : A.cell? ⟨b, p, none⟩ = some v) : B.cell? ⟨b, p, none⟩ = some v := (World.cell?_of_block (h b hb hn)).trans hc

theorem bd_at {n0 : Nat} {w W : World} {A : Option Addr} {c : Nat} {bs : List Bd} (h : IsBds w (.slice A bs.length c) bs) (hb : Below w.heap.size w W) {i : Nat} {b : Bd} (hi : bs[i]? = some b) (hn : w.heap.size ≤ n0) :
    ∃ g o, A = some ⟨g, o, none⟩ ∧ (g < n0 ∧ g < w.heap.size) ∧ W.cell? ⟨g, o + i * 3 + 1, none⟩ = some (.int .i64 b.y) := by
  obtain ⟨A', c', hv, _, _, hat⟩ := h
  injection hv with e1 _ e3
  subst e1 e3
  obtain ⟨g, o, hA, _, h1, _⟩ := hat i b hi
  have := World.block_lt_of_cell? w _ h1
  exact ⟨g, o, hA, by simp only at this; exact ⟨by omega, this⟩, cell_stays hb h1⟩

set_option maxRecDepth 100000 in
set_option maxHeartbeats 4000000 in
theorem back1_in (n : Nat) (m : Nat) (bs : List Bd) (A : Option Addr) (c : Nat) (w0 : World) (cb fb db zb bd g2 c2 n0 : Nat) (ls : List Int) (v0 L : Nat) (lp : Nat) (J Jx : List Int → World → Prop)
    (hl : IsBds w0 (.slice A bs.length c) bs) (hc : Cyc n (bs.map ed) ls v0 L) (hg : good n bs)
    (hY : ∀ pre x W, J pre W → pre.length < L → YieldAt Fence.wide (m - 1) Try.prog lp #[.int .i64 x] W fun e W' =>
      (e = .returned (.bool true) ∧ J (pre ++ [x]) W' ∧ KC cb n0 W W') ∨ (e = .returned (.bool false) ∧ Jx (pre ++ [x]) W'))
    (W : World) (hJA : AbidesFrom W.heap.size J) (hb0 : Below w0.heap.size w0 W) (hn0 : w0.heap.size ≤ n0)
    (hfb : fb < n0) (hdb : db < n0) (hzb : zb < n0) (hbd : bd < n0) (hg2 : g2 < n0) (nfb : fb ≠ cb) (ndb : db ≠ cb) (nzb : zb ≠ cb) (nbd : bd ≠ cb) (ng2 : g2 ≠ cb) (nw0 : w0.heap.size ≤ cb) (hll : ls.length = n)
    (kf : W.cell? ⟨fb, 0, none⟩ = some (.int .i64 (v0 : Int))) (kd : W.cell? ⟨db, 0, none⟩ = some (.pointer (some ⟨bd, 0, none⟩)))
    (kz : W.cell? ⟨zb, 1, none⟩ = some (.slice A bs.length c)) (kb : W.cell? ⟨bd, 1, none⟩ = some (.slice (some ⟨g2, 0, none⟩) ls.length c2)) (kr : Row W g2 ls) (h0 : J [] W) :
    CallsIn Fence.wide m Try.prog 82 #[.func (.yield lp) #[] #[], .pointer (some ⟨fb, 0, none⟩), .pointer (some ⟨db, 0, none⟩), .pointer (some ⟨zb, 0, none⟩)] W fun e W' => (∃ v, e = .returned v) ∧
      ((∃ ys, ys = cycL (bs.map ed) ls v0 L ∧ J ys W') ∨ (∃ pre, True ∧ Jx pre W')) := by
  have HL := Lib.hid hl
  have HC := Lib.hid hc
  have HG := Lib.hid hg
  have HR := Lib.hid kr
  clear hl hc hg kr
  refine callsIn_of_wp Try.func82 rfl trivial ?_
  simp only [Try.ntmps82, List.size_toArray, List.length_cons, List.length_nil, Nat.reduceAdd, Nat.reduceSub, Array.replicate_succ, Array.replicate_zero, List.push_toArray, List.append_toArray, List.nil_append, List.cons_append]
  gi_wp2
  gi_loopw [5] (fun i wr => ∃ k : Nat, k < L ∧ i = .int .i64 (back (bs.map ed) ls v0 k : Int) ∧ J (cycL (bs.map ed) ls v0 k) wr ∧ KC cb n0 W wr)
    (fun i _ => leftC (bs.map ed) ls v0 L i)
  case atStart => exact ⟨0, by have := HC.out.pos; omega, rfl, h0, KC.refl _ _ _⟩
  case round =>
    obtain ⟨k, hk, rfl, hJs, hnx⟩ := hrel
    obtain ⟨i, e, h1, h2, h3, h4, h5⟩ := HC.out.edge k
    have hLE := leftC_eq HC.out hk
    obtain ⟨at0, hat0⟩ : ∃ a, a = back (bs.map ed) ls v0 k := ⟨_, rfl⟩
    obtain ⟨at1, hat1⟩ : ∃ a, a = back (bs.map ed) ls v0 (k + 1) := ⟨_, rfl⟩
    rw [← hat0] at h1 h2 hLE ⊢
    rw [← hat1] at h5
    have HAT0 := Lib.hid hat0
    have HAT1 := Lib.hid hat1
    have HLE := Lib.hid hLE
    obtain ⟨b, hb, hbe⟩ : ∃ b, bs[i]? = some b ∧ b.y = (at1 : Int) := by
      rw [List.getElem?_map] at h3
      cases hb : bs[i]? with
      | none => rw [hb] at h3; cases h3
      | some b =>
        rw [hb] at h3
        injection h3 with h3
        refine ⟨b, rfl, ?_⟩
        have := HG.out b (List.mem_of_getElem? hb)
        rw [← h5, ← h3]
        simp only [ed]
        omega
    have hil := (List.getElem?_eq_some_iff.1 hb).1
    obtain ⟨gb, ob, rfl, ⟨hgb, hgb2⟩, kb1⟩ := bd_at HL.out hb0 hb hn0
    have ngb : gb ≠ cb := by omega
    rw [hbe] at kb1
    have hrow : W.cell? ⟨g2, at0, none⟩ = some (.int .i64 (i : Int)) := by rw [HR.out.cell (by omega), h2]
    have HPRE : Hid (cycL (bs.map ed) ls v0 (k + 1) = cycL (bs.map ed) ls v0 k ++ [(i : Int)]) := Lib.hid (by rw [cycL_succ, ← hat0, h2])
    have hlen : (cycL (bs.map ed) ls v0 k).length < L := by rw [cycL_length]; exact hk
    clear hat0 hat1 h3 h4 h5 hb hbe h2 hLE
    have kd' := hnx.cell hdb ndb kd
    have kb' := hnx.cell hbd nbd kb
    have hrow' := hnx.cell hg2 ng2 hrow
    have hat0i : (at0 : Int) < (ls.length : Int) := by omega
    have hii : (i : Int) < (bs.length : Int) := by omega
    obtain ⟨fn, tmps, assign, body, hy, hR⟩ := hY _ (i : Int) wr hJs hlen
    gi_wp2
    refine ⟨fun h => by simp [Fence.wide] at h, hR.mono ?_⟩
    rintro e W3 (⟨rfl, hJ3, hk3⟩ | ⟨rfl, hJx3⟩)
    · have hn3 := hnx.trans hk3
      replace kd' := hn3.cell hdb ndb kd
      replace kb' := hn3.cell hbd nbd kb
      replace hrow' := hn3.cell hg2 ng2 hrow
      have kz' := hn3.cell hzb nzb kz
      have kb1' := hn3.cell hgb ngb kb1
      have kf' := hn3.cell hfb nfb kf
      have HJ3 := Lib.hid (hJA _ _ W3.drew none hJ3 ⟨rfl, rfl, rfl, Nat.le_refl _, fun _ _ _ => rfl⟩ (fun r e => by cases e))
      clear hY hR hy hJ3 hJs
      gi_wp2
      refine wpIn_wide.2 ?_
      go_region_held3 (fun W => W.cell? ⟨zb, 1, none⟩ = some (.slice (some ⟨gb, ob, none⟩) bs.length c) ∧ W.cell? ⟨db, 0, none⟩ = some (.pointer (some ⟨bd, 0, none⟩)) ∧ W.cell? ⟨bd, 1, none⟩ = some (.slice (some ⟨g2, 0, none⟩) ls.length c2) ∧ W.cell? ⟨g2, at0, none⟩ = some (.int .i64 (i : Int)) ∧ W.cell? ⟨gb, ob + i * 3 + 1, none⟩ = some (.int .i64 (at1 : Int))) (exact ⟨kz', kd', kb', hrow', kb1'⟩) (fail)
      have kf2 : W3.drew.cell? ⟨fb, 0, none⟩ = some (.int .i64 (v0 : Int)) := kf'
      by_cases hend : k + 1 = L
      · have g0 : ((at1 : Int) == (v0 : Int)) = true := by rw [HAT1.out, hend, HC.out.home]; simp
        gi_wp2
        refine bodyPost_ret (results_none rfl _ _ _) rfl ?_
        exact ⟨⟨_, rfl⟩, .inl ⟨_, by rw [← hend, HPRE.out], HJ3.out⟩⟩
      · have g0 : ((at1 : Int) == (v0 : Int)) = false := by
          have := HC.out.away (k + 1) (by omega) (by omega)
          rw [← HAT1.out] at this
          rw [beq_eq_false_iff_ne]
          omega
        gi_wp2
        go_roundw
        case rel => exact ⟨k + 1, by omega, by rw [HAT1.out], by rw [HPRE.out]; exact HJ3.out, hn3.drew⟩
        case measure => rw [HLE.out, HAT1.out, leftC_eq HC.out (by omega : k + 1 < L)]; omega
    · gi_wp2
      go_end0
      exact ⟨⟨_, rfl⟩, .inr ⟨_, trivial, hJx3⟩⟩
end Go.Proofs.Ytgecbjjcjemcgaa
