/- The reference's aggregates: Of. -/
import Derived.Test.YtclpglgigpjfoaaGreatDoorQMagg8
import Derived.Test.YtclpglgigpjfoaaGreatDoorQMawake
namespace Go.Proofs.YtclpglgigpjfoaaGreatDoor
open Go.RowKit

theorem al_gen5 {K : World → Prop} {w : World} {cs : Array Value} {t : TypeId} (h : ∀ w6, Below w.heap.size w w6 → w6.heap[w.heap.size]? = some (.cells cs t (0, 0)) → K w6) : K (w.alloc (.cells cs t)) :=
  h _ (bel_al (Below.refl _ _) _) (heap_new' _ _ _ rfl)
/-- what region 9 leaves: the new accumulator in a block of its own, the error -/
def R9 (wr : World) (RA : Ac) (re : Int) (a a' : Act) (w' : World) : Prop := ∃ (X10 : Nat) (u29 u30 u31 u32 u33 u34 u28 u35 u36 : Value), a' = (((((((((((a.put (some 29) u29).put (some 30) u30).put (some 31) u31).put (some 32) u32).put (some 33) u33).put (some 34) u34).put (some 28) u28).put (some 35) u35).put (some 36) u36).put (some 10) (.pointer (some ⟨X10, 0, none⟩))).put (some 11) (.int .i64 re)) ∧ Hid (wr.heap.size ≤ X10 ∧ w'.heap[X10]? = some (.cells (accCells RA).toArray 240 (0, 0)) ∧ Below wr.heap.size wr w')
set_option maxRecDepth 100000 in
set_option maxHeartbeats 8000000 in
theorem rof_agg (k : Int) (l : List Vl) (o : Vl) (v : Value) (w : World) (hl : IsVls w v l) :
    Calls Tryz.prog 177 #[.int .i64 k, v, vlV o] w fun e w' => e = .returned (.tuple #[vlV (ofR k l o).1, .int .i64 (ofR k l o).2]) ∧ Below w.heap.size w w' := by
  obtain ⟨A, c, rfl, h1, h2, hat⟩ := hl
  have hn63 := len_i64 h1 h2
  have HL := Lib.hid hat
  obtain ⟨⟨RV, re⟩, hR⟩ : ∃ r, ofR k l o = r := ⟨_, rfl⟩
  have HR := Lib.hid hR
  rw [hR]
  unfold vlV
  clear hat h1 h2 hR
  obtain ⟨kb, hkb⟩ : ∃ kb, knownB k = kb := ⟨_, rfl⟩
  have HKB := Lib.hid hkb
  clear hkb
  go_enter Tryz.func177, Tryz.ntmps177
  go_wp2_with fail
  refine calls_gen fun W9 e9 => ?_
  have y0 : W9.cell? ⟨w.heap.size, 0, none⟩ = some (.int .i64 o.kind) := by rw [e9]; go_simp
  have y1 : W9.cell? ⟨w.heap.size, 1, none⟩ = some (.int .i64 o.num) := by rw [e9]; go_simp
  have y2 : W9.cell? ⟨w.heap.size, 2, none⟩ = some (.string o.text) := by rw [e9]; go_simp
  have hr : W9.heap[w.heap.size + 1]? = some (.cells [.int .i64 0, .int .i64 0, .string ⟨#[]⟩].toArray 88 (0, 0)) := by rw [e9]; exact heap_new' _ _ _ (by simp)
  have hb9 : Below w.heap.size w W9 := by rw [e9]; exact (by repeat (first | exact Below.refl _ _ | assumption | refine Below.drew ?_ | refine bel_al ?_ _ | refine bel_set ?_ (by omega) _ | refine bel_tr ?_ (by assumption)))
  clear e9
  refine (rknown_any k W9).mono ?_
  rw [HKB.out]
  rintro e w1 ⟨rfl, rfl⟩
  obtain ⟨B6, hB6⟩ : ∃ B6, B6 = w.heap.size + 1 := ⟨_, rfl⟩
  rw [← hB6] at hr ⊢
  have hw6 : w.heap.size ≤ B6 := by omega
  have HRR := Lib.hid hr
  have HB1 := Lib.hid hb9
  clear hr hb9 hB6
  cases kb with
  | false =>
    obtain ⟨e1, e2⟩ : (⟨0, 0, ⟨#[]⟩⟩ : Vl) = RV ∧ 1 = re := by have h := HR.out; unfold ofR at h; rw [if_pos HKB.out] at h; injection h with h1 h2; exact ⟨h1, h2⟩
    subst e1 e2
    have rr := HRR.out
    have z0 : W9.cell? ⟨B6, 0, none⟩ = some (.int .i64 0) := by rw [blk_cell rr]; rfl
    have z1 : W9.cell? ⟨B6, 1, none⟩ = some (.int .i64 0) := by rw [blk_cell rr]; rfl
    have z2 : W9.cell? ⟨B6, 2, none⟩ = some (.string ⟨#[]⟩) := by rw [blk_cell rr]; rfl
    have f0 := blk_frozen rr 0
    have f1 := blk_frozen rr 1
    have f2 := blk_frozen rr 2
    have HQ := Lib.hid (three_set rr (.int .i64 0) (.int .i64 0) (.string ⟨#[]⟩))
    have HQB := Lib.hid (bel_set (bel_set (bel_set (HB1.out) (i := 0) hw6 (.int .i64 0)) (i := 1) hw6 (.int .i64 0)) (i := 2) hw6 (.string ⟨#[]⟩))
    clear rr
    go_wp2_with fail
    have r0 := blk_cell HQ.out 0
    have r1 := blk_cell HQ.out 1
    have r2 := blk_cell HQ.out 2
    exact bodyPost_ret (v := .tuple #[.agg #[.int .i64 0, .int .i64 0, .string ⟨#[]⟩], .int .i64 1]) (by simp [results, Tryz.results177, go_sem, r0, r1, r2]) rfl ⟨rfl, HQB.out⟩
  | true =>
  by_cases hlen : 4096 < l.length
  · have hlen' : (4096 : Int) < (l.length : Int) := by omega
    obtain ⟨e1, e2⟩ : (⟨0, 0, ⟨#[]⟩⟩ : Vl) = RV ∧ 5 = re := by have h := HR.out; unfold ofR at h; rw [if_neg (by rw [HKB.out]; simp), if_pos hlen] at h; injection h with h1 h2; exact ⟨h1, h2⟩
    subst e1 e2
    have rr := HRR.out
    have z0 : W9.cell? ⟨B6, 0, none⟩ = some (.int .i64 0) := by rw [blk_cell rr]; rfl
    have z1 : W9.cell? ⟨B6, 1, none⟩ = some (.int .i64 0) := by rw [blk_cell rr]; rfl
    have z2 : W9.cell? ⟨B6, 2, none⟩ = some (.string ⟨#[]⟩) := by rw [blk_cell rr]; rfl
    have f0 := blk_frozen rr 0
    have f1 := blk_frozen rr 1
    have f2 := blk_frozen rr 2
    have HQ := Lib.hid (three_set rr (.int .i64 0) (.int .i64 0) (.string ⟨#[]⟩))
    have HQB := Lib.hid (bel_set (bel_set (bel_set (HB1.out) (i := 0) hw6 (.int .i64 0)) (i := 1) hw6 (.int .i64 0)) (i := 2) hw6 (.string ⟨#[]⟩))
    clear rr
    go_wp2_with fail
    have r0 := blk_cell HQ.out 0
    have r1 := blk_cell HQ.out 1
    have r2 := blk_cell HQ.out 2
    exact bodyPost_ret (v := .tuple #[.agg #[.int .i64 0, .int .i64 0, .string ⟨#[]⟩], .int .i64 5]) (by simp [results, Tryz.results177, go_sem, r0, r1, r2]) rfl ⟨rfl, HQB.out⟩
  have hlen' : ¬ (4096 : Int) < (l.length : Int) := by omega
  have HR2 : Hid ((if firstW k l ≠ 0 then (zeroVl, firstW k l) else resR k l.length (foldA k l) o) = (RV, re)) := Lib.hid (by have h := HR.out; unfold ofR at h; rwa [if_neg (by rw [HKB.out]; simp), if_neg hlen] at h)
  have HLEN := Lib.hid hlen
  have Y0 := Lib.hid y0
  have Y1 := Lib.hid y1
  have Y2 := Lib.hid y2
  have hy0l : w.heap.size < W9.heap.size := World.block_lt_of_cell? W9 ⟨w.heap.size, _, none⟩ y0
  clear hlen y0 y1 y2
  go_wp2_with fail
  obtain ⟨B8, hB8⟩ : ∃ B8, B8 = W9.heap.size := ⟨_, rfl⟩
  refine wp_gen fun w1 e1 => ?_
  have hr8 : w1.heap[B8]? = some (.cells (accCells ⟨k, 0, zeroVl⟩).toArray 240 (0, 0)) := by rw [e1, hB8]; exact heap_new' _ _ _ rfl
  have hb91 : Below W9.heap.size W9 w1 := by rw [e1]; exact (by repeat (first | exact Below.refl _ _ | assumption | refine Below.drew ?_ | refine bel_al ?_ _ | refine bel_set ?_ (by omega) _ | refine bel_tr ?_ (by assumption)))
  have hl8 : W9.heap.size ≤ B8 := by omega
  rw [← hB8]
  have HR8 := Lib.hid hr8
  have HB91 := Lib.hid hb91
  clear e1 hB8 hr8 hb91
  go_loopw [9] (fun i wr => ∃ j : Nat, j ≤ l.length ∧ i = .int .i64 j ∧ Hid (scanE (fun _ v => wrongE k v) (prevL l j) (l.drop j) = firstW k l ∧ (∀ x ∈ l.take j, wrongE k x = 0) ∧ wr.heap[B8]? = some (.cells (accCells (foldA k (l.take j))).toArray 240 (0, 0)) ∧ Below W9.heap.size W9 wr)) (fun i _ => l.length - (intOf i).toNat)
  case atStart => exact ⟨0, Nat.zero_le _, rfl, Lib.hid ⟨rfl, by simp, HR8.out, HB91.out⟩⟩
  case round =>
    obtain ⟨j, hj, rfl, hI⟩ := hrel
    obtain ⟨AJ, hAJ⟩ : ∃ AJ, foldA k (l.take j) = AJ := ⟨_, rfl⟩
    have hr3 := hI.out.2.2.1
    rw [hAJ] at hr3
    have HRJ := Lib.hid hr3
    have hb := hI.out.2.2.2
    have x0 : wr.cell? ⟨B8, 0, none⟩ = some (.int .i64 AJ.kind) := by rw [blk_cell hr3]; rfl
    have x1 : wr.cell? ⟨B8, 1, none⟩ = some (.int .i64 AJ.count) := by rw [blk_cell hr3]; rfl
    have x2 : wr.cell? ⟨B8, 2, none⟩ = some (.int .i64 AJ.val.kind) := by rw [blk_cell hr3]; rfl
    have x3 : wr.cell? ⟨B8, 3, none⟩ = some (.int .i64 AJ.val.num) := by rw [blk_cell hr3]; rfl
    have x4 : wr.cell? ⟨B8, 4, none⟩ = some (.string AJ.val.text) := by rw [blk_cell hr3]; rfl
    have hl3 : B8 < wr.heap.size := blk_lt hr3
    clear hr3
    by_cases hlt : j < l.length
    · have hj' : (j : Int) < (l.length : Int) := by omega
      obtain ⟨b, o', rfl, c0, c1, c2⟩ := HL.out j l[j] (List.getElem?_eq_getElem hlt)
      have hget := Lib.hid (List.getElem?_eq_getElem hlt)
      obtain ⟨y, hy⟩ : ∃ y, y = l[j] := ⟨_, rfl⟩
      rw [← hy] at c0 c1 c2 hget
      have hbw := bel_tr HB1.out hb
      replace c0 := cell_stays hbw c0
      replace c1 := cell_stays hbw c1
      replace c2 := cell_stays hbw c2
      have hokj : AcOk k AJ (j : Int) := by
        have h := foldA_ok (l := l.take j) HKB.out hI.out.2.1 j (by rw [List.length_take]; omega)
        rw [List.take_take, Nat.min_self, hAJ] at h
        exact h
      have HOKJ := Lib.hid hokj
      obtain ⟨⟨RA, ea⟩, hRA⟩ : ∃ r, addAR k AJ y = r := ⟨_, rfl⟩
      have HRA := Lib.hid hRA
      have HAD : Hid (∀ W, Calls Tryz.prog 195 #[.agg #[.int .i64 AJ.kind, .int .i64 AJ.count, .int .i64 AJ.val.kind, .int .i64 AJ.val.num, .string AJ.val.text], .agg #[.int .i64 y.kind, .int .i64 y.num, .string y.text]] W fun e w' => e = .returned (.tuple #[.agg #[.int .i64 RA.kind, .int .i64 RA.count, .int .i64 RA.val.kind, .int .i64 RA.val.num, .string RA.val.text], .int .i64 ea]) ∧ Below W.heap.size W w') := Lib.hid (fun W => by
        have h := radd_any k j AJ y W HKB.out hokj (by have := HLEN.out; omega)
        rw [hRA] at h
        exact h)
      have X0 := Lib.hid x0
      have X1 := Lib.hid x1
      have X2 := Lib.hid x2
      have X3 := Lib.hid x3
      have X4 := Lib.hid x4
      have C0 := Lib.hid c0
      have C1 := Lib.hid c1
      have C2 := Lib.hid c2
      clear hy hbw hokj hRA x0 x1 x2 x3 x4 c0 c1 c2
      go_wp2_with fail
      refine wp_join (R9 wr RA ea) ?_ ?_
      · -- REGION9
        refine wp_region_noPanic ?_
        refine wp_region_held_drew (S := fun W => Below wr.heap.size wr W ∧ W.cell? ⟨B8, 0, none⟩ = some (.int .i64 AJ.kind) ∧ W.cell? ⟨B8, 1, none⟩ = some (.int .i64 AJ.count) ∧ W.cell? ⟨B8, 2, none⟩ = some (.int .i64 AJ.val.kind) ∧ W.cell? ⟨B8, 3, none⟩ = some (.int .i64 AJ.val.num) ∧ W.cell? ⟨B8, 4, none⟩ = some (.string AJ.val.text) ∧ W.cell? ⟨b, o' + j * 3, none⟩ = some (.int .i64 y.kind) ∧ W.cell? ⟨b, o' + j * 3 + 1, none⟩ = some (.int .i64 y.num) ∧ W.cell? ⟨b, o' + j * 3 + 2, none⟩ = some (.string y.text)) (by kernel_rfl) (⟨(Below.refl _ _).drew, X0.out, X1.out, X2.out, X3.out, X4.out, C0.out, C1.out, C2.out⟩) (fun hHeld => ?_)
        generalize wr.drew = wD at hHeld ⊢
        focus (refine wpAnyH_take (i := 0) (v := ?_) rfl (by kernel_rfl) (by kernel_rfl) (by kernel_rfl) (fun _ _ _ h => h) (Or.inl ⟨by rfl, ?_⟩) (by assumption) ?_; rotate_left 1; (focus (intro wS hSw; (try dsimp only at hSw); go_simp <;> with_reducible rfl)); try simp only [Act.put, List.setIfInBounds_toArray])
        focus (refine wpAnyH_take (i := 1) (v := ?_) rfl (by kernel_rfl) (by kernel_rfl) (by kernel_rfl) (fun _ _ _ h => h) (Or.inl ⟨by rfl, ?_⟩) (by assumption) ?_; rotate_left 1; (focus (intro wS hSw; (try dsimp only at hSw); go_simp <;> with_reducible rfl)); try simp only [Act.put])
        focus (refine wpAnyH_take (i := 2) (v := ?_) rfl (by kernel_rfl) (by kernel_rfl) (by kernel_rfl) (fun _ _ _ h => h) (Or.inl ⟨by rfl, ?_⟩) (by assumption) ?_; rotate_left 1; (focus (intro wS hSw; (try dsimp only at hSw); go_simp <;> with_reducible rfl)); try simp only [Act.put])
        focus (refine wpAnyH_take (i := 3) (v := ?_) rfl (by kernel_rfl) (by kernel_rfl) (by kernel_rfl) (fun _ _ _ h => h) (Or.inl ⟨by rfl, ?_⟩) (by assumption) ?_; rotate_left 1; (focus (intro wS hSw; (try dsimp only at hSw); go_simp <;> with_reducible rfl)); try simp only [Act.put])
        focus (refine wpAnyH_take (i := 4) (v := ?_) rfl (by kernel_rfl) (by kernel_rfl) (by kernel_rfl) (fun _ _ _ h => h) (Or.inl ⟨by rfl, ?_⟩) (by assumption) ?_; rotate_left 1; (focus (intro wS hSw; (try dsimp only at hSw); go_simp <;> with_reducible rfl)); try simp only [Act.put])
        refine wpAnyH_ready (rs := [5, 9]) (by kernel_rfl) (by simp) ?_
        refine AllReadyH.cons rfl (fun K hK => ?_) ?_
        focus (go_simp; go_at_call 195; refine (HAD.out _).mono ?_; rintro e w5 ⟨rfl, hb5⟩; (try (have yb := Lib.hid ((hb5.block _ (blk_lt yh.out)).trans yh.out); clear yh; have yh := yb; clear yb)))
        refine hK.out _ _ (⟨bel_tr hHeld.1 hb5, cell_stays (bel_tr hHeld.1 hb5) X0.out, cell_stays (bel_tr hHeld.1 hb5) X1.out, cell_stays (bel_tr hHeld.1 hb5) X2.out, cell_stays (bel_tr hHeld.1 hb5) X3.out, cell_stays (bel_tr hHeld.1 hb5) X4.out, cell_stays (bel_tr hHeld.1 hb5) C0.out, cell_stays (bel_tr hHeld.1 hb5) C1.out, cell_stays (bel_tr hHeld.1 hb5) C2.out⟩) (fun hHeld => ?_)
        clear hK K
        try simp only [Act.put, List.setIfInBounds_toArray, List.set_cons_zero, List.set_cons_succ]
        focus (refine wpAnyH_take (i := 6) (v := ?_) rfl (by kernel_rfl) (by kernel_rfl) (by kernel_rfl) (fun _ _ _ h => h) (Or.inl ⟨by rfl, ?_⟩) (by assumption) ?_; rotate_left 1; (focus (intro wS hSw; (try dsimp only at hSw); go_simp <;> with_reducible rfl)); try simp only [Act.put, List.setIfInBounds_toArray])
        focus (refine wpAnyH_take (i := 7) (v := ?_) rfl (by kernel_rfl) (by kernel_rfl) (by kernel_rfl) (fun _ _ _ h => h) (Or.inl ⟨by rfl, ?_⟩) (by assumption) ?_; rotate_left 1; (focus (intro wS hSw; (try dsimp only at hSw); go_simp <;> with_reducible rfl)); try simp only [Act.put])
        focus (refine wpAnyH_take (i := 8) (v := ?_) rfl (by kernel_rfl) (by kernel_rfl) (by kernel_rfl) (fun _ _ _ h => h) (Or.inl ⟨by rfl, ?_⟩) (by assumption) ?_; rotate_left 1; (focus (intro wS hSw; (try dsimp only at hSw); go_simp <;> with_reducible rfl)); try simp only [Act.put])
        refine wpAnyH_ready (rs := [9]) (by kernel_rfl) (by simp) ?_
        refine AllReadyH.cons rfl (fun K hK => ?_) ?_
        focus (go_simp; have hx : wr.heap.size ≤ _ := hHeld.1.size; refine al_gen5 (K := fun W => K _ W) fun w6 hb6 hy6 => ?_; have yh := Lib.hid hy6; clear hy6)
        refine hK.out _ _ (⟨bel_tr hHeld.1 hb6, cell_stays (bel_tr hHeld.1 hb6) X0.out, cell_stays (bel_tr hHeld.1 hb6) X1.out, cell_stays (bel_tr hHeld.1 hb6) X2.out, cell_stays (bel_tr hHeld.1 hb6) X3.out, cell_stays (bel_tr hHeld.1 hb6) X4.out, cell_stays (bel_tr hHeld.1 hb6) C0.out, cell_stays (bel_tr hHeld.1 hb6) C1.out, cell_stays (bel_tr hHeld.1 hb6) C2.out⟩) (fun hHeld => ?_)
        clear hK K
        try simp only [Act.put, List.setIfInBounds_toArray, List.set_cons_zero, List.set_cons_succ]
        refine wpAnyH_ready (rs := [10]) (by kernel_rfl) (by simp) ?_
        refine AllReadyH.cons rfl (fun K hK => ?_) ?_
        focus (have z0 := (blk_cell yh.out 0); have z1 := (blk_cell yh.out 1); have z2 := (blk_cell yh.out 2); have z3 := (blk_cell yh.out 3); have z4 := (blk_cell yh.out 4); simp only [List.getElem?_cons_zero, List.getElem?_cons_succ] at z0 z1 z2 z3 z4; have f0 := blk_frozen yh.out 0; have f1 := blk_frozen yh.out 1; have f2 := blk_frozen yh.out 2; have f3 := blk_frozen yh.out 3; have f4 := blk_frozen yh.out 4; have HX := Lib.hid (accBlk_set yh.out (.int .i64 RA.kind) (.int .i64 RA.count) (.int .i64 RA.val.kind) (.int .i64 RA.val.num) (.string RA.val.text)); have HBS := Lib.hid (bel_set (bel_set (bel_set (bel_set (bel_set hHeld.1 (i := 0) hx (.int .i64 RA.kind)) (i := 1) hx (.int .i64 RA.count)) (i := 2) hx (.int .i64 RA.val.kind)) (i := 3) hx (.int .i64 RA.val.num)) (i := 4) hx (.string RA.val.text)); go_simp; clear z0 z1 z2 z3 z4 f0 f1 f2 f3 f4)
        refine hK.out _ _ (⟨HBS.out, cell_stays (HBS.out) X0.out, cell_stays (HBS.out) X1.out, cell_stays (HBS.out) X2.out, cell_stays (HBS.out) X3.out, cell_stays (HBS.out) X4.out, cell_stays (HBS.out) C0.out, cell_stays (HBS.out) C1.out, cell_stays (HBS.out) C2.out⟩) (fun hHeld => ?_)
        clear hK K
        try simp only [Act.put, List.setIfInBounds_toArray, List.set_cons_zero, List.set_cons_succ]
        focus (refine wpAnyH_take (i := 11) (v := ?_) rfl (by kernel_rfl) (by kernel_rfl) (by kernel_rfl) (fun _ _ _ h => h) (Or.inl ⟨by rfl, ?_⟩) (by assumption) ?_; rotate_left 1; (focus (intro wS hSw; (try dsimp only at hSw); go_simp <;> with_reducible rfl)); try simp only [Act.put, List.setIfInBounds_toArray])
        refine wpAnyH_done (by kernel_rfl) (NoPanic.normal ?_) _
        rotate_left 1
        exact AllReadyH.nil
        exact AllReadyH.nil
        refine AllReadyH.cons rfl (fun K hK => ?_) ?_
        focus (go_simp; have hx : wr.heap.size ≤ _ := hHeld.1.size; refine al_gen5 (K := fun W => K _ W) fun w6 hb6 hy6 => ?_; have yh := Lib.hid hy6; clear hy6)
        refine hK.out _ _ (⟨bel_tr hHeld.1 hb6, cell_stays (bel_tr hHeld.1 hb6) X0.out, cell_stays (bel_tr hHeld.1 hb6) X1.out, cell_stays (bel_tr hHeld.1 hb6) X2.out, cell_stays (bel_tr hHeld.1 hb6) X3.out, cell_stays (bel_tr hHeld.1 hb6) X4.out, cell_stays (bel_tr hHeld.1 hb6) C0.out, cell_stays (bel_tr hHeld.1 hb6) C1.out, cell_stays (bel_tr hHeld.1 hb6) C2.out⟩) (fun hHeld => ?_)
        clear hK K
        try simp only [Act.put, List.setIfInBounds_toArray, List.set_cons_zero, List.set_cons_succ]
        refine wpAnyH_ready (rs := [5]) (by kernel_rfl) (by simp) ?_
        refine AllReadyH.cons rfl (fun K hK => ?_) ?_
        focus (go_simp; go_at_call 195; refine (HAD.out _).mono ?_; rintro e w5 ⟨rfl, hb5⟩; (try (have yb := Lib.hid ((hb5.block _ (blk_lt yh.out)).trans yh.out); clear yh; have yh := yb; clear yb)))
        refine hK.out _ _ (⟨bel_tr hHeld.1 hb5, cell_stays (bel_tr hHeld.1 hb5) X0.out, cell_stays (bel_tr hHeld.1 hb5) X1.out, cell_stays (bel_tr hHeld.1 hb5) X2.out, cell_stays (bel_tr hHeld.1 hb5) X3.out, cell_stays (bel_tr hHeld.1 hb5) X4.out, cell_stays (bel_tr hHeld.1 hb5) C0.out, cell_stays (bel_tr hHeld.1 hb5) C1.out, cell_stays (bel_tr hHeld.1 hb5) C2.out⟩) (fun hHeld => ?_)
        clear hK K
        try simp only [Act.put, List.setIfInBounds_toArray, List.set_cons_zero, List.set_cons_succ]
        focus (refine wpAnyH_take (i := 6) (v := ?_) rfl (by kernel_rfl) (by kernel_rfl) (by kernel_rfl) (fun _ _ _ h => h) (Or.inl ⟨by rfl, ?_⟩) (by assumption) ?_; rotate_left 1; (focus (intro wS hSw; (try dsimp only at hSw); go_simp <;> with_reducible rfl)); try simp only [Act.put, List.setIfInBounds_toArray])
        focus (refine wpAnyH_take (i := 7) (v := ?_) rfl (by kernel_rfl) (by kernel_rfl) (by kernel_rfl) (fun _ _ _ h => h) (Or.inl ⟨by rfl, ?_⟩) (by assumption) ?_; rotate_left 1; (focus (intro wS hSw; (try dsimp only at hSw); go_simp <;> with_reducible rfl)); try simp only [Act.put])
        focus (refine wpAnyH_take (i := 8) (v := ?_) rfl (by kernel_rfl) (by kernel_rfl) (by kernel_rfl) (fun _ _ _ h => h) (Or.inl ⟨by rfl, ?_⟩) (by assumption) ?_; rotate_left 1; (focus (intro wS hSw; (try dsimp only at hSw); go_simp <;> with_reducible rfl)); try simp only [Act.put])
        refine wpAnyH_ready (rs := [10]) (by kernel_rfl) (by simp) ?_
        refine AllReadyH.cons rfl (fun K hK => ?_) ?_
        focus (have z0 := (blk_cell yh.out 0); have z1 := (blk_cell yh.out 1); have z2 := (blk_cell yh.out 2); have z3 := (blk_cell yh.out 3); have z4 := (blk_cell yh.out 4); simp only [List.getElem?_cons_zero, List.getElem?_cons_succ] at z0 z1 z2 z3 z4; have f0 := blk_frozen yh.out 0; have f1 := blk_frozen yh.out 1; have f2 := blk_frozen yh.out 2; have f3 := blk_frozen yh.out 3; have f4 := blk_frozen yh.out 4; have HX := Lib.hid (accBlk_set yh.out (.int .i64 RA.kind) (.int .i64 RA.count) (.int .i64 RA.val.kind) (.int .i64 RA.val.num) (.string RA.val.text)); have HBS := Lib.hid (bel_set (bel_set (bel_set (bel_set (bel_set hHeld.1 (i := 0) hx (.int .i64 RA.kind)) (i := 1) hx (.int .i64 RA.count)) (i := 2) hx (.int .i64 RA.val.kind)) (i := 3) hx (.int .i64 RA.val.num)) (i := 4) hx (.string RA.val.text)); go_simp; clear z0 z1 z2 z3 z4 f0 f1 f2 f3 f4)
        refine hK.out _ _ (⟨HBS.out, cell_stays (HBS.out) X0.out, cell_stays (HBS.out) X1.out, cell_stays (HBS.out) X2.out, cell_stays (HBS.out) X3.out, cell_stays (HBS.out) X4.out, cell_stays (HBS.out) C0.out, cell_stays (HBS.out) C1.out, cell_stays (HBS.out) C2.out⟩) (fun hHeld => ?_)
        clear hK K
        try simp only [Act.put, List.setIfInBounds_toArray, List.set_cons_zero, List.set_cons_succ]
        focus (refine wpAnyH_take (i := 11) (v := ?_) rfl (by kernel_rfl) (by kernel_rfl) (by kernel_rfl) (fun _ _ _ h => h) (Or.inl ⟨by rfl, ?_⟩) (by assumption) ?_; rotate_left 1; (focus (intro wS hSw; (try dsimp only at hSw); go_simp <;> with_reducible rfl)); try simp only [Act.put, List.setIfInBounds_toArray])
        refine wpAnyH_done (by kernel_rfl) (NoPanic.normal ?_) _
        rotate_left 1
        exact AllReadyH.nil
        exact AllReadyH.nil
        exact AllReadyH.nil
        all_goals
          refine ⟨rfl, ?_⟩
          unfold R9
          (repeat apply Exists.intro)
          refine ⟨?_, ?_⟩
          focus (simp only [Act.put, List.setIfInBounds_toArray, List.set_cons_zero, List.set_cons_succ, List.getElem_toArray, List.getElem_cons_succ, List.getElem_cons_zero]; rfl)
          exact Lib.hid ⟨hx, HX.out, hHeld.1⟩
      · unfold R9
        rintro a' w' ⟨X10, u29, u30, u31, u32, u33, u34, u28, u35, u36, rfl, H9⟩
        simp only [Act.put, List.setIfInBounds_toArray, List.set_cons_zero, List.set_cons_succ]
        by_cases hz : ea = 0
        · subst hz
          have hwy : wrongE k y = 0 := by
            have h := HRA.out
            unfold addAR at h
            split at h
            · next h1 => exact absurd (congrArg Prod.snd h) h1
            · next h1 => simpa using h1
          have hst : foldA k (l.take (j + 1)) = RA := by
            have h := HRA.out
            unfold addAR at h
            rw [if_neg (by simp [hwy])] at h
            injection h with h1 _
            rw [foldA_snoc hget.out, hAJ, h1]
          have HST := Lib.hid hst
          have HWY := Lib.hid hwy
          have hx10 := H9.out.2.1
          have rr := (H9.out.2.2.block B8 hl3).trans HRJ.out
          have q0 : w'.cell? ⟨X10, 0, none⟩ = some (.int .i64 RA.kind) := by rw [blk_cell hx10]; rfl
          have q1 : w'.cell? ⟨X10, 1, none⟩ = some (.int .i64 RA.count) := by rw [blk_cell hx10]; rfl
          have q2 : w'.cell? ⟨X10, 2, none⟩ = some (.int .i64 RA.val.kind) := by rw [blk_cell hx10]; rfl
          have q3 : w'.cell? ⟨X10, 3, none⟩ = some (.int .i64 RA.val.num) := by rw [blk_cell hx10]; rfl
          have q4 : w'.cell? ⟨X10, 4, none⟩ = some (.string RA.val.text) := by rw [blk_cell hx10]; rfl
          have z0 : w'.cell? ⟨B8, 0, none⟩ = some (.int .i64 AJ.kind) := by rw [blk_cell rr]; rfl
          have z1 : w'.cell? ⟨B8, 1, none⟩ = some (.int .i64 AJ.count) := by rw [blk_cell rr]; rfl
          have z2 : w'.cell? ⟨B8, 2, none⟩ = some (.int .i64 AJ.val.kind) := by rw [blk_cell rr]; rfl
          have z3 : w'.cell? ⟨B8, 3, none⟩ = some (.int .i64 AJ.val.num) := by rw [blk_cell rr]; rfl
          have z4 : w'.cell? ⟨B8, 4, none⟩ = some (.string AJ.val.text) := by rw [blk_cell rr]; rfl
          have f0 := blk_frozen rr 0
          have f1 := blk_frozen rr 1
          have f2 := blk_frozen rr 2
          have f3 := blk_frozen rr 3
          have f4 := blk_frozen rr 4
          have HR8n := Lib.hid (accBlk_set rr (.int .i64 RA.kind) (.int .i64 RA.count) (.int .i64 RA.val.kind) (.int .i64 RA.val.num) (.string RA.val.text))
          clear hst hwy hx10 rr hb hAJ
          go_wp2_with fail
          go_roundw
          case rel =>
            refine ⟨j + 1, by omega, by go_num, Lib.hid ⟨scan_go hget.out hI.out.1 HWY.out, ?_, ?_, ?_⟩⟩
            · rw [take_snoc' hget.out]
              intro z hz
              rcases List.mem_append.1 hz with hz | hz
              · exact hI.out.2.1 z hz
              · simp at hz; subst hz; exact HWY.out
            · rw [HST.out]; exact HR8n.out
            · have hB := bel_tr hI.out.2.2.2 H9.out.2.2
              exact bel_set (bel_set (bel_set (bel_set (bel_set hB hl8 _) hl8 _) hl8 _) hl8 _) hl8 _
          case measure => simp [intOf]; omega
        · have hz' : (ea != 0) = true := by simpa using hz
          have hwy : wrongE k y = ea := by
            have h := HRA.out
            unfold addAR at h
            split at h
            · injection h
            · injection h with _ h2; exact absurd h2.symm hz
          have hf : firstW k l = ea := (scan_stop hget.out hI.out.1 hwy hz).symm
          obtain ⟨e1, e2⟩ : (⟨0, 0, ⟨#[]⟩⟩ : Vl) = RV ∧ ea = re := by have h := HR2.out; rw [hf, if_pos hz] at h; injection h with h1 h2; exact ⟨h1, h2⟩
          subst e1 e2
          clear hz hf hwy hb hAJ
          have rr := ((bel_tr hI.out.2.2.2 H9.out.2.2).block B6 (blk_lt HRR.out)).trans HRR.out
          have z0 : w'.cell? ⟨B6, 0, none⟩ = some (.int .i64 0) := by rw [blk_cell rr]; rfl
          have z1 : w'.cell? ⟨B6, 1, none⟩ = some (.int .i64 0) := by rw [blk_cell rr]; rfl
          have z2 : w'.cell? ⟨B6, 2, none⟩ = some (.string ⟨#[]⟩) := by rw [blk_cell rr]; rfl
          have f0 := blk_frozen rr 0
          have f1 := blk_frozen rr 1
          have f2 := blk_frozen rr 2
          have HQ := Lib.hid (three_set rr (.int .i64 0) (.int .i64 0) (.string ⟨#[]⟩))
          have HQB := Lib.hid (bel_set (bel_set (bel_set (bel_tr HB1.out (bel_tr hI.out.2.2.2 H9.out.2.2)) (i := 0) hw6 (.int .i64 0)) (i := 1) hw6 (.int .i64 0)) (i := 2) hw6 (.string ⟨#[]⟩))
          clear rr
          go_wp2_with fail
          have r0 := blk_cell HQ.out 0
          have r1 := blk_cell HQ.out 1
          have r2 := blk_cell HQ.out 2
          exact bodyPost_ret (v := .tuple #[.agg #[.int .i64 0, .int .i64 0, .string ⟨#[]⟩], .int .i64 ea]) (by simp [results, Tryz.results177, go_sem, r0, r1, r2]) rfl ⟨rfl, HQB.out⟩
    · have hj' : ¬ (j : Int) < (l.length : Int) := by omega
      have hf : firstW k l = 0 := by
        have h := hI.out.1
        rw [List.drop_of_length_le (by omega)] at h
        simpa [scanE] using h.symm
      have hres : resR k l.length (foldA k l) o = (RV, re) := by have h := HR2.out; rwa [hf, if_neg (by simp)] at h
      have hall := scan_all l none hf
      have hok := foldA_ok HKB.out hall l.length (Nat.le_refl _)
      have hfa : foldA k l = AJ := by rw [← hAJ, List.take_of_length_le (by omega)]
      rw [List.take_length, hfa] at hok
      rw [hfa] at hres
      have y0 := cell_stays hb Y0.out
      have y1 := cell_stays hb Y1.out
      have y2 := cell_stays hb Y2.out
      have HRS := Lib.hid (fun W => rresult_ok k l.length AJ o W HKB.out hok (by have := HLEN.out; omega))
      rw [hres] at HRS
      unfold accV at HRS
      unfold vlV at HRS
      have H5 := Lib.hid hb
      clear hf hres hall hok hfa hAJ hb
      go_wp2_with fail
      refine (HRS.out _).mono ?_
      rintro e w6 ⟨rfl, hb6⟩
      have H6 := Lib.hid (bel_tr H5.out hb6)
      clear hb6 y0 y1 y2 x0 x1 x2 x3 x4
      have rr := (H6.out.block B6 (blk_lt HRR.out)).trans HRR.out
      have z0 : w6.cell? ⟨B6, 0, none⟩ = some (.int .i64 0) := by rw [blk_cell rr]; rfl
      have z1 : w6.cell? ⟨B6, 1, none⟩ = some (.int .i64 0) := by rw [blk_cell rr]; rfl
      have z2 : w6.cell? ⟨B6, 2, none⟩ = some (.string ⟨#[]⟩) := by rw [blk_cell rr]; rfl
      have f0 := blk_frozen rr 0
      have f1 := blk_frozen rr 1
      have f2 := blk_frozen rr 2
      have HQ := Lib.hid (three_set rr (.int .i64 RV.kind) (.int .i64 RV.num) (.string RV.text))
      have HQB := Lib.hid (bel_set (bel_set (bel_set (bel_tr HB1.out H6.out) (i := 0) hw6 (.int .i64 RV.kind)) (i := 1) hw6 (.int .i64 RV.num)) (i := 2) hw6 (.string RV.text))
      clear rr
      go_wp2_with fail
      have r0 := blk_cell HQ.out 0
      have r1 := blk_cell HQ.out 1
      have r2 := blk_cell HQ.out 2
      exact bodyPost_ret (v := .tuple #[.agg #[.int .i64 RV.kind, .int .i64 RV.num, .string RV.text], .int .i64 re]) (by simp [results, Tryz.results177, go_sem, r0, r1, r2]) rfl ⟨rfl, HQB.out⟩
end Go.Proofs.YtclpglgigpjfoaaGreatDoor
