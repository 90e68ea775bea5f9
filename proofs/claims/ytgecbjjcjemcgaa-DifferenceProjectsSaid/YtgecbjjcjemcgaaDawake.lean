/- The examples of the chapter hold. -/
import Derived.Test.YtgecbjjcjemcgaaDzone
import Derived.Test.YtgecbjjcjemcgaaDsame
namespace Go.Proofs.Ytgecbjjcjemcgaa
open Go.RowKit

def zA : List Bd := [⟨1, 2, -1⟩, ⟨2, 3, 2⟩, ⟨3, 0, 5⟩]
def zB : List Bd := [⟨1, 2, -1⟩, ⟨2, 1, 0⟩]
def zC : List Bd := [⟨1, 0, 6⟩, ⟨1, 2, 1⟩, ⟨2, 0, 5⟩]
theorem awA0 : zoneErr 4 zA = 0 := by decide +kernel
theorem awA1 : feas 4 (zA.map ed) = true := by decide +kernel
theorem awA2 : modelOf (sums 4 (zA.map ed)) = [0, -1, 0, 0] := by decide +kernel
theorem awA3 : (projectR 4 zA 2).1 = 3 ∧ (projectR 4 zA 2).2.2 = 0 := by decide +kernel
theorem awA4 : flat3 (projectR 4 zA 2).2.1 = flat3 zC := by decide +kernel
theorem awA5 : rangeR 4 zA 1 = (0, 0, 25) := by decide +kernel
theorem awB0 : zoneErr 3 zB = 0 := by decide +kernel
theorem awB1 : feas 3 (zB.map ed) = false := by decide +kernel
theorem awB2 : back (zB.map ed) (runs 3 (zB.map ed) 4).l (cycFrom 3 (zB.map ed)) 1 ≠ cycFrom 3 (zB.map ed) := by decide +kernel
theorem awB3 : back (zB.map ed) (runs 3 (zB.map ed) 4).l (cycFrom 3 (zB.map ed)) 2 = cycFrom 3 (zB.map ed) := by decide +kernel
theorem awB4 {L : Nat} (h : Cyc 3 (zB.map ed) (runs 3 (zB.map ed) 4).l (cycFrom 3 (zB.map ed)) L) : L = 2 := by
  have h1 := h.pos
  have h2 := h.le
  rcases (by omega : L = 1 ∨ L = 2 ∨ L = 3) with rfl | rfl | rfl
  · exact absurd h.home awB2
  · rfl
  · exact absurd awB3 (h.away 2 (by omega) (by omega))
theorem flat3_inj : ∀ {l m : List Bd}, flat3 l = flat3 m → l = m
  | [], [], _ => rfl
  | [], b :: m, h => by simp [flat3] at h
  | b :: l, [], h => by simp [flat3] at h
  | b :: l, c :: m, h => by
    obtain ⟨x, y, z⟩ := b
    obtain ⟨x', y', z'⟩ := c
    simp only [flat3, List.flatMap_cons, List.cons_append, List.nil_append, List.cons.injEq] at h
    obtain ⟨rfl, rfl, rfl, h⟩ := h
    rw [flat3_inj h]
theorem awA6 : projectR 4 zA 2 = (3, zC, 0) := by
  have h1 := flat3_inj awA4
  have h2 := awA3
  generalize projectR 4 zA 2 = r at h1 h2 ⊢
  obtain ⟨a, b, c⟩ := r
  simp only at h1 h2
  rw [h1, h2.1, h2.2]
/-- numbers in a new block -/
theorem ints_new (w : World) (d : List Int) (hd : d.length ≤ 64) (k : Nat) (hk : k = w.heap.size) : IsInts (w.alloc (.cells (ints d).toArray 3)) (.slice (some ⟨k, 0, none⟩) d.length d.length) d := by
  subst hk
  exact (row_new w d).ints (Nat.le_refl _) (by unfold maxLen; omega)

set_option maxRecDepth 100000 in
set_option maxHeartbeats 2000000 in
theorem awake_any (w : World) : Calls Try.prog 13 #[] w fun e w' => e = .returned (.bool true) ∧ Below w.heap.size w w' := by
  go_enter Try.func13, Try.ntmps13
  go_wp2_with fail
  refine (zone_any 4 zA _ _ (ints_new w (flat3 zA) (by decide) _ rfl) (by decide)).mono ?_
  rintro e w1 ⟨v1, rfl, hq1, hb1⟩
  have HQ1 := Lib.hid hq1
  obtain ⟨A1, c1, rfl, -⟩ := hq1
  unfold zoneV
  go_wp2_with fail
  refine (zsolve_any 4 (by decide) zA _ _ (HQ1.out.stays bdAt_stays (bel_one _ _))).mono ?_
  rintro e w2 ⟨hb2, h2⟩
  rcases h2 with ⟨h2, -⟩ | ⟨-, -, v2, rfl, hq2⟩ | ⟨-, h2, -⟩
  · exact absurd awA0 h2
  · have hq2' : IsInts w2 v2 [0, -1, 0, 0] := by have h := hq2; rw [show ((4 : Int)).toNat = 4 from rfl, awA2] at h; exact h
    have HQ2 := Lib.hid hq2'
    obtain ⟨A2, c2, rfl, -⟩ := hq2'
    have hz := (new_cells hb2).1
    have hlz : w1.heap.size < w2.heap.size := by have := hb2.size; simp at this; omega
    have hb12 := bel_tr (bel_one _ _) hb2
    have HB1 := Lib.hid (bel_tr (bel_one _ _) hb1)
    have HB2 := Lib.hid (bel_tr HB1.out hb12)
    have HQ1' := Lib.hid (HQ1.out.stays bdAt_stays hb12)
    clear hq2 hb1 hb2 hb12 HQ1
    go_wp2_with fail
    refine (zone_any 3 zB _ _ (ints_new w2 (flat3 zB) (by decide) _ rfl) (by decide)).mono ?_
    rintro e w3 ⟨v3, rfl, hq3, hb3⟩
    have hb23 := bel_tr (bel_one _ _) hb3
    have HQ3 := Lib.hid hq3
    obtain ⟨A3, c3, rfl, -⟩ := hq3
    unfold zoneV
    go_wp2_with fail
    refine (zsolve_any 3 (by decide) zB _ _ HQ3.out).mono ?_
    rintro e w4 ⟨hb4, h4⟩
    rcases h4 with ⟨h4, -⟩ | ⟨-, h4, -⟩ | ⟨-, -, L, A4, c4, rfl, hcy, -, -⟩
    · exact absurd awB0 h4
    · exact absurd (h4.symm.trans awB1) (by simp)
    · obtain rfl := awB4 hcy
      have hb24 := bel_tr hb23 hb4
      have hz4 := arr_keep hz hlz hb24
      have hlz4 : w1.heap.size < w4.heap.size := by have := hb24.size; omega
      have HB4 := Lib.hid (bel_tr HB2.out hb24)
      have HQ14 := Lib.hid (HQ1'.out.stays bdAt_stays hb24)
      have HQ24 := Lib.hid (HQ2.out.stays intAt_stays hb24)
      clear hcy hb3 hb23 hb4 hz hlz hb24
      go_wp2_with fail
      refine (project_any 4 (by decide) zA _ 2 _ HQ14.out).mono ?_
      rw [awA6]
      rintro e w5 ⟨v5, rfl, hq5, hb5⟩
      simp only at hq5
      have HQ5 := Lib.hid hq5
      obtain ⟨A5, c5, rfl, -⟩ := hq5
      have hz5 := arr_keep hz4 hlz4 hb5
      have hlz5 : w1.heap.size < w5.heap.size := by have := hb5.size; omega
      unfold zoneV
      go_wp2_with fail
      refine (range_any 4 (by decide) zA _ 1 _ (HQ14.out.stays bdAt_stays (bel_tr hb5 (bel_one _ _)))).mono ?_
      rw [awA5]
      rintro e w6 ⟨rfl, hb6⟩
      have hp := (new_cells hb6).1
      have hb56 := bel_tr (bel_one _ _) hb6
      have HB6 := Lib.hid (bel_tr (bel_tr HB4.out hb5) hb56)
      have HQ26 := Lib.hid (HQ24.out.stays intAt_stays (bel_tr hb5 hb56))
      have HQ56 := Lib.hid (HQ5.out.stays bdAt_stays hb56)
      clear hz4 hz5 hlz4 hlz5 hb5 hb6 hb56
      go_wp2_with fail
      refine wp_gen ?_
      intro W7 hW7
      have hb7 : Below w6.heap.size w6 W7 := by rw [hW7]; exact bel_one _ _
      have c0 : W7.cell? ⟨w5.heap.size, 0, none⟩ = some (.int .i64 3) := by rw [hW7]; exact cell_stays (bel_one _ _) (hp 0)
      have c1 : W7.cell? ⟨w5.heap.size, 1, none⟩ = some (.slice A5 zC.length c5) := by rw [hW7]; exact cell_stays (bel_one _ _) (hp 1)
      clear hW7 hp
      go_region_held3 (fun W => W.cell? ⟨w5.heap.size, 0, none⟩ = some (.int .i64 3) ∧ W.cell? ⟨w5.heap.size, 1, none⟩ = some (.slice A5 zC.length c5)) (exact ⟨cell_stays (by repeat (first | with_reducible exact Below.refl _ _ | assumption | with_reducible refine Below.drew ?_ | with_reducible refine bel_al ?_ _ | with_reducible refine bel_tr ?_ (by assumption))) c0, cell_stays (by repeat (first | with_reducible exact Below.refl _ _ | assumption | with_reducible refine Below.drew ?_ | with_reducible refine bel_al ?_ _ | with_reducible refine bel_tr ?_ (by assumption))) c1⟩) (first
        | (go_at_call 16; refine (sameInts_eq [0, -1, 0, 0] _ _ _ (HQ26.out.stays intAt_stays (bel_tr hb7 (bel_one _ _).drew)) (ints_new W7 [0, -1, 0, 0] (by decide) _ rfl)).mono ?_; rintro e w8 ⟨rfl, hb8'⟩; have hb8 : Below W7.heap.size W7 w8 := bel_tr (bel_one _ _).drew hb8'; clear hb8')
        | (go_at_call 41; refine (zone_any 3 zC _ _ (ints_new w8 (flat3 zC) (by decide) _ rfl) (by decide)).mono ?_; rintro e w9 ⟨v9, rfl, hq9, hb9'⟩; have hb9 : Below w8.heap.size w8 w9 := bel_tr (bel_one _ _) hb9'; clear hb9'; have HQ9 := Lib.hid hq9; obtain ⟨A9, c9, rfl, -⟩ := hq9; unfold zoneV)
        | (go_at_call 24; refine (sameZone_eq 3 zC _ _ _ (HQ56.out.stays bdAt_stays (bel_tr (bel_tr hb7 hb8) hb9)) HQ9.out).mono ?_; rintro e w10 ⟨rfl, hb10⟩))
      go_wp2_with fail
      go_ret
      exact ⟨by simp, bel_tr (bel_tr (bel_tr (bel_tr HB6.out hb7) hb8) hb9) hb10⟩
  · exact absurd (h2.symm.trans awA1) (by simp)
end Go.Proofs.Ytgecbjjcjemcgaa
