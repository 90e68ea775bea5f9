/- slices.SortFunc at bindings, by the reference's order. -/
import Derived.Test.YtclpglgigpjfoaaGreatDoorKsort
namespace Go.Proofs.YtclpglgigpjfoaaGreatDoor
section
open Go.RowKit Go.Shelf
open Go.Sort (SWO PermIn SortedIn HoldsK grow)
instance bndInh : Inhabited Bnd := ⟨⟨0, 0, 0, 0⟩⟩
def bdEnc (x : Bnd) : List Value := [.int .i64 x.v, .int .i64 x.t, .int .i64 x.s, .int .i64 x.n]
theorem enter_rord (args : Array Value) (W : World) : (callFunc 40 args).run Tryz.prog W = .ok (.enter 40 args) W := enters_of Tryz.func40 (by kernel_rfl) rfl args W
theorem bdEnc_at (x : Bnd) {w : World} {g p : Nat} (h : BndAt w g p x) {r : Nat} (hr : r < 4) : w.cell? ⟨g, p + r, none⟩ = (bdEnc x)[r]? := by
  obtain ⟨h0, h1, h2, h3⟩ := h
  match r, hr with
  | 0, _ => exact h0
  | 1, _ => exact h1
  | 2, _ => exact h2
  | 3, _ => exact h3
set_option maxRecDepth 100000 in
theorem sortBnds_any (es : List Bnd) (g cap : Nat) (cur : List Value) (w : World) (hg : w.heap[g]? = some (.cells cur.toArray 79 (0, 0))) (hc : ∀ (k : Nat) (x : Bnd), es[k]? = some x → BndAt w g (0 + k * 4) x) (hsz : es.length ≤ 1048576) :
    Calls Tryz.prog 39 #[.slice (some ⟨g, 0, none⟩) es.length cap, .func (.func 40) #[] #[]] w fun e W => e = .returned (.tuple #[]) ∧ ∃ es' : List Bnd, es'.Perm es ∧ es'.Pairwise (fun a b => ¬ bndC b a < 0) ∧ (∀ (k : Nat) (x : Bnd), es'[k]? = some x → BndAt W g (0 + k * 4) x) ∧ w.grownBy W (some g) := by
  have hH : HoldsK bdEnc 4 w g 0 es.toArray := by
    intro t ht
    rw [Go.Sort.size_flatK] at ht
    rw [Go.Sort.get_flatK _ _ _ _ ht]
    simp only [List.size_toArray] at ht
    have hq : t / 4 < es.length := by omega
    have hx : es.toArray[t / 4]! = es[t / 4] := by simp [hq]
    rw [hx]
    refine ⟨?_, blk_frozen hg _⟩
    have h1 := bdEnc_at es[t / 4] (hc (t / 4) es[t / 4] (List.getElem?_eq_getElem hq)) (r := t % 4) (by omega)
    have h2 : 0 + t / 4 * 4 + t % 4 = 0 + t := by omega
    rw [h2] at h1
    rw [h1]
    have h3 : t % 4 < (bdEnc es[t / 4]).length := by simp [bdEnc]; omega
    rw [List.getElem?_eq_getElem h3, getElem!_pos (bdEnc es[t / 4]) (t % 4) h3]; rfl
  have hcmp : CmpLays Tryz.prog 40 #[] bdEnc 4 bndC g 0 es.toArray.size w := by
    intro m os dk _ x y
    refine (rbnds_any x y _).mono ?_
    rintro e w' ⟨rfl, h2⟩
    exact ⟨rfl, gr_grow h2⟩
  have hlen : es.toArray.size = es.length := by simp
  have h := AnyQ.slices_SortFunc Tryz.sortBnd 4 Tryz.isAgg79 Tryz.sizeOf79 bdEnc (fun _ => rfl) (fun x v hv => by
      simp only [bdEnc, List.mem_cons, List.not_mem_nil, or_false] at hv
      rcases hv with rfl | rfl | rfl | rfl <;> rfl) bndC (pc_swo bndC_pc) 40 #[] g 0 cap es.toArray w enter_rord hcmp hH (blk_lt hg) (by rw [hlen]; omega)
  change Calls Tryz.prog 39 _ _ _ at h
  rw [hlen] at h
  refine h.mono ?_
  rintro e W ⟨rfl, d', n, os, ⟨hs, _, hp⟩, hso, rfl⟩
  rw [hlen] at hs
  have hex : ∀ d : Array Bnd, d.size = es.length → (d.extract 0 es.length).toList = d.toList := fun d hd => by rw [← hd]; simp
  rw [hex d' hs, hex es.toArray hlen] at hp
  have hHd : HoldsK bdEnc 4 (sortWorldK bdEnc 4 w g 0 n d' os) g 0 d' := holdsK_sortWorldK_c bdEnc 4 w g 0 es.toArray d' n os hH (blk_lt hg) (by rw [hs, hlen])
  have hW := sortW_grown bdEnc 4 w g 0 n d' os
  refine ⟨rfl, d'.toList, by simpa using hp, ?_, ?_, hW⟩
  · rw [List.pairwise_iff_getElem]
    intro i j hi hj hij
    have := hso i j (Nat.zero_le _) hij (by rw [← hs]; simpa using hj)
    simp only [Array.length_toList] at hi hj
    rw [getElem!_pos d' i hi, getElem!_pos d' j hj] at this
    unfold ltOf at this
    simpa only [decide_eq_false_iff_not, Array.getElem_toList] using this
  · intro k x hx
    have hkd : k < d'.size := by have := (List.getElem?_eq_some_iff.1 hx).1; simpa using this
    have hz : d'[k]! = d'[k] := getElem!_pos d' k hkd
    have hxx : d'[k] = x := by
      rw [Array.getElem?_toList, Array.getElem?_eq_getElem hkd] at hx
      exact Option.some.inj hx
    have q0 := (hHd.cell (c := 0) hkd (by decide)).1
    have q1 := (hHd.cell (c := 1) hkd (by decide)).1
    have q2 := (hHd.cell (c := 2) hkd (by decide)).1
    have q3 := (hHd.cell (c := 3) hkd (by decide)).1
    rw [hz, hxx] at q0 q1 q2 q3
    refine ⟨?_, ?_, ?_, ?_⟩
    · simpa [bdEnc] using q0
    · simpa [bdEnc] using q1
    · simpa [bdEnc] using q2
    · simpa [bdEnc] using q3
end
end Go.Proofs.YtclpglgigpjfoaaGreatDoor
