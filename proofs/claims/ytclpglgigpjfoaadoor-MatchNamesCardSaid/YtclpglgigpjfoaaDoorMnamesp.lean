/- What Format makes of a match under the names of the law MatchNames. Plain. -/
import Derived.Test.YtclpglgigpjfoaaDoorMtext
import Derived.Test.YtclpglgigpjfoaaDoorMfmtp
namespace Go.Proofs.YtclpglgigpjfoaaDoor
open Go.Lib

def lawVs : List Nv := (List.range 16).map fun v : Nat => ⟨⟨(lawN (v : Int)).toArray⟩, 0⟩
theorem lawName : ∀ v : Fin 16, nameE (lawN (v.val : Int)) = 0 := by decide +kernel
theorem nvOf_law {b : Bnd} {v : Nat} (hv : b.v = (v : Int)) (h : v < 16) : nvOf lawVs b = ⟨⟨(lawN (v : Int)).toArray⟩, 0⟩ := by
  unfold nvOf lawVs
  rw [hv, List.getD_eq_getElem?_getD, List.getElem?_map, Int.toNat_natCast, List.getElem?_range h]
  rfl
theorem textB_law (nm : List UInt8) (b : Bnd) : textB ⟨nm.toArray⟩ b = ⟨(nm ++ 64 :: refT b).toArray⟩ := by
  unfold textB refT itoaB
  apply ByteArray.ext
  simp
theorem partE_law {b : Bnd} (h : 0 ≤ b.v ∧ b.v < 16) : partE lawVs b = (⟨(bndT lawN b).toArray⟩, 0) := by
  obtain ⟨v, hv⟩ : ∃ v : Nat, b.v = (v : Int) := ⟨b.v.toNat, by omega⟩
  have hl : lawVs.length = 16 := by simp [lawVs]
  unfold partE
  rw [if_neg (by rw [hl]; omega), nvOf_law hv (by omega), if_neg (by
    have := lawName ⟨v, by omega⟩
    simp only at this
    simp [this]), textB_law]
  unfold bndT
  rw [hv]
theorem join_joinT : ∀ l : List (List UInt8), join l [32] = joinT l
  | [] => by simp [join_nil, joinT]
  | [x] => by simp [join_cons, joinTail, joinT]
  | x :: y :: l => by
    have ih := join_joinT (y :: l)
    rw [join_cons] at ih ⊢
    simp only [joinT]
    rw [← ih]
    simp [joinTail]
theorem matErr_v {a : List Bnd} (h : matErr a = 0) : ∀ b ∈ a, 0 ≤ b.v ∧ b.v < 16 := fun b hb => bndOk_v ((mat_ok h).2.2 b hb)
theorem formatR_law0 {a : List Bnd} (h : matErr a = 0) : formatR lawVs a = (⟨(matT lawN a).toArray⟩, 0) := by
  have hv := matErr_v h
  have hm : a.map (partE lawVs) = a.map fun b => ((⟨(bndT lawN b).toArray⟩ : ByteArray), (0 : Int)) := List.map_congr_left fun b hb => partE_law (hv b hb)
  rw [formatR_ok h (by rw [hm]; exact firstE_none (fun x hx => by obtain ⟨b, _, rfl⟩ := List.mem_map.1 hx; rfl)), hm]
  unfold joinB matT
  rw [← join_joinT, List.map_map, List.map_map]
  rfl
theorem formatR_law2 (a : List Bnd) : (formatR lawVs a).2 = matErr a := by
  by_cases h : matErr a = 0
  · rw [formatR_law0 h, h]
  · rw [formatR_bad rfl h]
/-- the texts are the same exactly where the matches are -/
theorem formatR_same {a b : List Bnd} (ha : matErr a = 0) (hb : matErr b = 0) : (formatR lawVs a).1 = (formatR lawVs b).1 ↔ a = b := by
  rw [formatR_law0 ha, formatR_law0 hb]
  constructor
  · intro h
    have h2 : matT lawN a = matT lawN b := by
      have := congrArg (fun x : ByteArray => x.data.toList) h
      simpa using this
    exact matT_inj lawN_ok (matErr_v ha) (matErr_v hb) h2
  · rintro rfl; rfl
end Go.Proofs.YtclpglgigpjfoaaDoor
