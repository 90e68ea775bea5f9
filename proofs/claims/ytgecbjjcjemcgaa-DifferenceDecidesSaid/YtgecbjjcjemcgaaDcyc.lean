/- A contradiction that is read off the last bounds is one. -/
import Derived.Test.YtgecbjjcjemcgaaDver
namespace Go.Proofs.Ytgecbjjcjemcgaa
open Go.RowKit

theorem cycL_gd {bs : List Ed} {l : List Int} {v L k : Nat} (h : k < L) : gd (cycL bs l v L) k = gd l (back bs l v k) := by
  apply gd_get
  unfold cycL
  rw [List.getElem?_map, List.getElem?_range h]
  rfl
theorem edge_bd {n : Nat} {bs : List Bd} (hg : good n bs) {l : List Int} {v L : Nat} (hc : Cyc n (bs.map ed) l v L) (k : Nat) :
    0 ≤ gd l (back (bs.map ed) l v k) ∧ gd l (back (bs.map ed) l v k) < bs.length ∧ (bdI bs (gd l (back (bs.map ed) l v k))).x = (back (bs.map ed) l v k : Int) ∧ (bdI bs (gd l (back (bs.map ed) l v k))).y = (back (bs.map ed) l v (k + 1) : Int) ∧
      lastE (bs.map ed) l (back (bs.map ed) l v k) = some (ed (bdI bs (gd l (back (bs.map ed) l v k)))) := by
  obtain ⟨i, e, _, e1, e2, e3, e4⟩ := hc.edge k
  have hil : i < bs.length := by have := (List.getElem?_eq_some_iff.1 e2).1; simpa using this
  have hb := bdI_get hil
  have he : e = ed (bdI bs (i : Int)) := by
    rw [List.getElem?_map, hb] at e2
    injection e2 with e2
    exact e2.symm
  have hgb := hg _ (List.mem_of_getElem? hb)
  rw [e1]
  refine ⟨by omega, by omega, ?_, ?_, ?_⟩
  · rw [← e3, he]; simp only [ed]; omega
  · rw [← e4, he]; simp only [ed]; omega
  · rw [lastE_of e1 e2, he]
theorem cyc_verified {n : Int} {bs : List Bd} (hz : zoneErr n bs = 0) {l : List Int} {v L : Nat} (hc : Cyc n.toNat (bs.map ed) l v L) (hs : cycSum (bs.map ed) l v L < 0) : verifyR n bs (cycL (bs.map ed) l v L) = 0 := by
  obtain ⟨h1, h2, h3, hg⟩ := good_of hz
  have hpos := hc.pos
  have hle := hc.le
  have hcl := cycL_length (bs.map ed) l v L
  have hidx : idxBad bs (cycL (bs.map ed) l v L) = false := idxBad_none (fun j hj => by
    rw [hcl] at hj
    rw [cycL_gd hj]
    have := edge_bd hg hc j
    omega)
  have hlink : ∀ k, k < (cycL (bs.map ed) l v L).length → linkB bs (cycL (bs.map ed) l v L) k = true := by
    intro k hk
    rw [hcl] at hk
    unfold linkB nxtI
    rw [hcl, cycL_gd hk, cycL_gd (Nat.mod_lt _ (by omega)), beq_iff_eq, (edge_bd hg hc k).2.2.2.1, (edge_bd hg hc ((k + 1) % L)).2.2.1]
    congr 1
    by_cases hkl : k + 1 < L
    · rw [Nat.mod_eq_of_lt hkl]
    · have : k + 1 = L := by omega
      rw [this, Nat.mod_self, hc.home]
      rfl
  have hsum : ∀ k, k ≤ L → sumC bs (cycL (bs.map ed) l v L) k = cycSum (bs.map ed) l v k := by
    intro k
    induction k with
    | zero => intro _; rfl
    | succ k ih =>
      intro hk
      simp only [sumC, cycSum]
      rw [ih (by omega), cycL_gd (by omega), (edge_bd hg hc k).2.2.2.2]
      rfl
  have hp : provesB bs (cycL (bs.map ed) l v L) = true := by
    rw [provesB_end hlink, hcl, hsum L (Nat.le_refl _)]
    exact decide_eq_true hs
  unfold verifyR
  rw [if_pos hz, hcl, if_neg (by omega), hidx, hp]
  rfl
end Go.Proofs.Ytgecbjjcjemcgaa
