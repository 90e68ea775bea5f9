/- The values of a match's row: the reference's Row. Printed by gen_rrow.py. -/
import Derived.Test.YtclpglgigpjfoaaGreatDoorQMevp
import Derived.Test.YtclpglgigpjfoaaGreatDoorQMrread
import Derived.Test.YtclpglgigpjfoaaGreatDoorQMenv
import Derived.Test.YtclpglgigpjfoaaGreatDoorQMagg9
namespace Go.Proofs.YtclpglgigpjfoaaGreatDoor
open Go.RowKit

set_option maxRecDepth 100000 in
set_option maxHeartbeats 8000000 in
theorem rrow_any (l : List Evt) (vars : List Nv) (rets : List Ex) (bs : List Bnd) (d : Nat) (v vb : Value) (c0 c1 c2 c3 c4 c5 c6 c7 c8 c9 c10 c11 c12 c13 c14 c15 c16 c17 : Value) (w : World) (hl : IsEvts w v l) (hb : IsBnds w vb bs) (hvs : IsNvs w c1 vars) (hr : IsExs d w c17 rets)
    (_hvals : ∀ e ∈ l, e.vals.length ≤ 1048576) (hbl : bs.length ≤ 1048576) (hN : ∀ x ∈ rets, nodesN x ≤ 1048576) :
    Calls Tryz.prog 44 #[v, .agg #[c0, c1, c2, c3, c4, c5, c6, c7, c8, c9, c10, c11, c12, c13, c14, c15, c16, c17], matV vb] w (RowRet w (rowR l vars.length rets bs)) := by
  have HEN := Lib.hid (fun W (hW : Below w.heap.size w W) => renv_any l (vars.length : Int) bs v vb W (hl.stays evtAt_stays hW) (hb.stays bndAt_stays hW))
  have HSM := Lib.hid (fun k => evsAt_small (l := l) (n := (vars.length : Int)) hbl k)
  have HNN := Lib.hid hN
  obtain ⟨S, hS⟩ : ∃ r, rowR l vars.length rets bs = r := ⟨_, rfl⟩
  obtain ⟨⟨vs, ee⟩, hE⟩ : ∃ r, envR l (vars.length : Int) bs = r := ⟨_, rfl⟩
  have HS : Hid ((if 16 < vars.length ∨ 256 < rets.length then ([], 5) else if ee ≠ 0 then ([], ee) else retR (evsR vs rets)) = S) := Lib.hid (by rw [← hS]; unfold rowR; rw [hE])
  rw [hS]
  rw [hE] at HEN HSM
  clear hS hE hN _hvals hbl
  obtain ⟨Av, cv, rfl, hv1, hv2, -⟩ := hvs
  obtain ⟨Ax, cx, rfl, h1, h2, hat⟩ := hr
  obtain ⟨Ab, cb, rfl, -⟩ := hb
  obtain ⟨Al, cl, rfl, -⟩ := hl
  have hn63 := len_i64 h1 h2
  have hv63 := len_i64 hv1 hv2
  have HL := Lib.hid hat
  clear h1 h2 hat hv1 hv2
  unfold matV at *
  obtain ⟨i0, hi, hz0, hz1, hz2⟩ := info_parts info_vl
  by_cases g1 : 16 < vars.length
  · have g1' : (16 : Int) < (vars.length : Int) := by omega
    obtain rfl : (([], 5) : List Vl × Int) = S := by have h := HS.out; rw [if_pos (.inl g1)] at h; exact h
    clear g1
    go_enter Tryz.func44, Tryz.ntmps44
    go_wp2_with fail
    exact bodyPost_ret (v := .tuple #[.slice none 0 0, .int .i64 5]) (by simp [results, Tryz.results44, go_sem]) rfl ⟨_, rfl, Sl.nil _ _ _ _ _ (Nat.zero_le _), (by repeat (first | exact Below.refl _ _ | assumption | refine Below.drew ?_ | refine bel_al ?_ _ | refine bel_set ?_ (by omega) _ | refine bel_tr ?_ (by assumption)))⟩
  by_cases g2 : 256 < rets.length
  · have g1' : ¬ (16 : Int) < (vars.length : Int) := by omega
    have g2' : (256 : Int) < (rets.length : Int) := by omega
    obtain rfl : (([], 5) : List Vl × Int) = S := by have h := HS.out; rw [if_pos (.inr g2)] at h; exact h
    clear g1 g2
    go_enter Tryz.func44, Tryz.ntmps44
    go_wp2_with fail
    exact bodyPost_ret (v := .tuple #[.slice none 0 0, .int .i64 5]) (by simp [results, Tryz.results44, go_sem]) rfl ⟨_, rfl, Sl.nil _ _ _ _ _ (Nat.zero_le _), (by repeat (first | exact Below.refl _ _ | assumption | refine Below.drew ?_ | refine bel_al ?_ _ | refine bel_set ?_ (by omega) _ | refine bel_tr ?_ (by assumption)))⟩
  have g1' : ¬ (16 : Int) < (vars.length : Int) := by omega
  have g2' : ¬ (256 : Int) < (rets.length : Int) := by omega
  have hS2 : (if ee ≠ 0 then ([], ee) else retR (evsR vs rets)) = S := by have h := HS.out; rw [if_neg (by omega)] at h; exact h
  have hr256 : rets.length ≤ 256 := by omega
  clear g1 g2 HS
  go_enter Tryz.func44, Tryz.ntmps44
  go_wp2_with fail
  refine calls_gen fun W9 e9 => ?_
  have hX : W9.heap[w.heap.size]? = some (.cells [c0, .slice Av vars.length cv, c2, c3, c4, c5, c6, c7, c8, c9, c10, c11, c12, c13, c14, c15, c16, .slice Ax rets.length cx].toArray 94 (0, 0)) := by
    rw [e9]; repeat (first | exact heap_new' _ _ _ (by simp) | apply heap_old)
  have hb9 : Below w.heap.size w W9 := by rw [e9]; exact (by repeat (first | exact Below.refl _ _ | assumption | refine Below.drew ?_ | refine bel_al ?_ _ | refine bel_set ?_ (by omega) _ | refine bel_tr ?_ (by assumption)))
  clear e9
  refine (HEN.out _ hb9).mono ?_
  rintro e w3 ⟨ve, rfl, hve, hb3⟩
  have HVE := Lib.hid hve
  obtain ⟨Ae, ce, rfl, -⟩ := hve
  have HX := Lib.hid (heap_stays hb3 hX)
  have HW3 := Lib.hid (bel_tr hb9 hb3)
  obtain ⟨X, hXe⟩ : ∃ X, X = w.heap.size := ⟨_, rfl⟩
  have hXl : X < w3.heap.size := blk_lt (heap_stays hb3 (hXe ▸ hX))
  rw [← hXe] at HX ⊢
  clear hX hb9 hb3 hXe
  by_cases hz : ee = 0
  case neg =>
    rw [if_pos hz] at hS2
    subst hS2
    have hz' : (ee != 0) = true := by simpa using hz
    clear hz
    go_wp2_with fail
    exact bodyPost_ret (v := .tuple #[.slice none 0 0, .int .i64 ee]) (by simp [results, Tryz.results44, go_sem]) rfl ⟨_, rfl, Sl.nil _ _ _ _ _ (Nat.zero_le _), bel_al HW3.out _⟩
  subst hz
  rw [if_neg (by simp)] at hS2
  obtain ⟨FR, hFR⟩ : ∃ r, evsR vs rets = r := ⟨_, rfl⟩
  rw [hFR] at hS2
  have HS := Lib.hid hS2
  have HFR := Lib.hid hFR
  have hx17 : w3.cell? ⟨X, 17, none⟩ = some (.slice Ax rets.length cx) := blk_cell HX.out 17
  clear hS2 hFR
  go_wp2_with fail
  refine wp_gen fun w1 e1 => ?_
  have hEv : w1.cell? ⟨w3.heap.size, 0, none⟩ = some (.slice Ae vs.length ce) := by rw [e1]; go_simp
  have hb1 : Below w3.heap.size w3 w1 := by rw [e1]; exact (by repeat (first | exact Below.refl _ _ | assumption | refine Below.drew ?_ | refine bel_al ?_ _ | refine bel_set ?_ (by omega) _ | refine bel_tr ?_ (by assumption)))
  clear e1 hx17
  have HEV := Lib.hid hEv
  have HB1 := Lib.hid hb1
  have HW1 := Lib.hid (bel_tr HW3.out hb1)
  have hEl : w3.heap.size < w1.heap.size := World.block_lt_of_cell? w1 ⟨w3.heap.size, 0, none⟩ hEv
  obtain ⟨Y, hY⟩ : ∃ Y, Y = w3.heap.size := ⟨_, rfl⟩
  rw [← hY] at HEV hEl ⊢
  clear hEv hb1 hY
  go_loopw [10, 11] (fun av i wr => ∃ (k : Nat) (pre : List Vl), k ≤ rets.length ∧ pre.length = k ∧ i = .int .i64 k ∧ Hid (wr.ownsRow w1.heap.size 88 3 av k (vlCells pre)) ∧ Hid ((pre ++ (evsR vs (rets.drop k)).1, (evsR vs (rets.drop k)).2) = FR ∧ Below w1.heap.size w1 wr)) (fun _ i _ => rets.length - (intOf i).toNat)
  case atStart => exact ⟨0, [], Nat.zero_le _, rfl, rfl, Lib.hid ⟨rfl, .inl ⟨rfl, rfl⟩⟩, Lib.hid ⟨by rw [List.drop_zero, HFR.out]; rfl, Below.refl _ _⟩⟩
  case round =>
    obtain ⟨k, pre, hk, hpl, rfl, hrow, hI⟩ := hrel
    have hb := hI.out.2
    obtain ⟨Ar, cr, rfl⟩ := slice_own hrow.out
    have hsz := hb.size
    have x1 : wr.cell? ⟨X, 17, none⟩ = some (.slice Ax rets.length cx) := blk_cell (heap_stays (bel_tr HB1.out hb) HX.out) 17
    by_cases hlt : k < rets.length
    · have hk' : (k : Int) < (rets.length : Int) := by omega
      obtain ⟨b, o, rfl, hea⟩ := HL.out k rets[k] (List.getElem?_eq_getElem hlt)
      have hg := Lib.hid (List.getElem?_eq_getElem hlt)
      have hmem : rets[k] ∈ rets := List.getElem_mem hlt
      obtain ⟨a, ha⟩ : ∃ a, a = rets[k] := ⟨_, rfl⟩
      rw [← ha] at hg hea hmem
      clear ha
      have hNa := HNN.out a hmem
      obtain ⟨d', v', hd', hv', p0, p1, p2, p3, p4, p5, p6, p7⟩ := ex_open (exAt_stays d _ _ _ _ _ (bel_tr HW1.out hb) hea)
      have hv2 := hv'
      obtain ⟨A', c', hvv, -⟩ := hv2
      subst hvv
      obtain ⟨⟨fv, fe⟩, hQ⟩ : ∃ r, evalE vs (-1) noEv a = r := ⟨_, rfl⟩
      have HC := Lib.hid (fun (W : World) (hW : Below wr.heap.size wr W) => revalp_any d' vs _ (-1) noEv (.slice none 0 0) HSM.out a _ W (HVE.out.stays varAt_stays (bel_tr HB1.out (bel_tr hb hW))) (noEv_is W) (hv'.stays (exAt_stays d') hW) hNa)
      rw [hQ] at HC
      unfold exV evtV vlV noEv at HC
      simp only at HC
      have HQ := Lib.hid hQ
      have e0 := cell_stays hb HEV.out
      have h := hI.out.1
      rw [evsR_drop hg.out, HQ.out] at h
      have HH := Lib.hid h
      clear hQ hea hd' hv' hmem hNa h
      have mkS : ∀ W, Below wr.heap.size wr W → (fun W => Below wr.heap.size wr W ∧ W.cell? ⟨X, 17, none⟩ = some (.slice (some ⟨b, o, none⟩) rets.length cx) ∧ W.cell? ⟨b, o + k * 8, none⟩ = some (.int .i64 a.op) ∧ W.cell? ⟨b, o + k * 8 + 1, none⟩ = some (.slice A' a.args.length c') ∧ W.cell? ⟨b, o + k * 8 + 2, none⟩ = some (.int .i64 a.vr) ∧ W.cell? ⟨b, o + k * 8 + 3, none⟩ = some (.int .i64 a.fl) ∧ W.cell? ⟨b, o + k * 8 + 4, none⟩ = some (.int .i64 a.kd) ∧ W.cell? ⟨b, o + k * 8 + 5, none⟩ = some (.int .i64 a.val.kind) ∧ W.cell? ⟨b, o + k * 8 + 6, none⟩ = some (.int .i64 a.val.num) ∧ W.cell? ⟨b, o + k * 8 + 7, none⟩ = some (.string a.val.text) ∧ W.cell? ⟨Y, 0, none⟩ = some (.slice Ae vs.length ce)) W := fun W hW => ⟨hW, cell_stays hW x1, cell_stays hW p0, cell_stays hW p1, cell_stays hW p2, cell_stays hW p3, cell_stays hW p4, cell_stays hW p5, cell_stays hW p6, cell_stays hW p7, cell_stays hW e0⟩
      go_wp2_with fail
      refine wp_region_noPanic ?_
      refine wp_region_held_drew (S := fun W => Below wr.heap.size wr W ∧ W.cell? ⟨X, 17, none⟩ = some (.slice (some ⟨b, o, none⟩) rets.length cx) ∧ W.cell? ⟨b, o + k * 8, none⟩ = some (.int .i64 a.op) ∧ W.cell? ⟨b, o + k * 8 + 1, none⟩ = some (.slice A' a.args.length c') ∧ W.cell? ⟨b, o + k * 8 + 2, none⟩ = some (.int .i64 a.vr) ∧ W.cell? ⟨b, o + k * 8 + 3, none⟩ = some (.int .i64 a.fl) ∧ W.cell? ⟨b, o + k * 8 + 4, none⟩ = some (.int .i64 a.kd) ∧ W.cell? ⟨b, o + k * 8 + 5, none⟩ = some (.int .i64 a.val.kind) ∧ W.cell? ⟨b, o + k * 8 + 6, none⟩ = some (.int .i64 a.val.num) ∧ W.cell? ⟨b, o + k * 8 + 7, none⟩ = some (.string a.val.text) ∧ W.cell? ⟨Y, 0, none⟩ = some (.slice Ae vs.length ce)) (by kernel_rfl) (mkS _ (Below.refl _ _).drew) (fun hHeld => ?_)
      generalize wr.drew = wD at hHeld ⊢
      focus (refine wpAnyH_take2 (i := 0) (fuel := 13) (L := (true :: false :: false :: false :: false :: false :: false :: false :: false :: false :: false :: false :: false :: false :: []).toArray) (v := ?_) rfl rfl (by kernel_rfl) (by kernel_rfl) (by kernel_rfl) (by kernel_rfl) (fun _ _ _ h => h) (by kernel_rfl) ?_ (by assumption) ?_; rotate_left 1; (focus (intro wS hSw; (try dsimp only at hSw); go_simp <;> with_reducible rfl)); simp only [List.set_cons_zero, List.set_cons_succ])
      focus (refine wpAnyH_take2 (i := 1) (fuel := 12) (L := (true :: true :: false :: false :: false :: false :: false :: false :: false :: false :: false :: false :: false :: false :: []).toArray) (v := ?_) rfl rfl (by kernel_rfl) (by kernel_rfl) (by kernel_rfl) (by kernel_rfl) (fun _ _ _ h => h) (by kernel_rfl) ?_ (by assumption) ?_; rotate_left 1; (focus (intro wS hSw; (try dsimp only at hSw); go_simp <;> with_reducible rfl)); simp only [List.set_cons_zero, List.set_cons_succ])
      focus (refine wpAnyH_take2 (i := 2) (fuel := 11) (L := (true :: true :: true :: false :: false :: false :: false :: false :: false :: false :: false :: false :: false :: false :: []).toArray) (v := ?_) rfl rfl (by kernel_rfl) (by kernel_rfl) (by kernel_rfl) (by kernel_rfl) (fun _ _ _ h => h) (by kernel_rfl) ?_ (by assumption) ?_; rotate_left 1; (focus (intro wS hSw; (try dsimp only at hSw); go_simp <;> with_reducible rfl)); simp only [List.set_cons_zero, List.set_cons_succ])
      focus (refine wpAnyH_take2 (i := 3) (fuel := 10) (L := (true :: true :: true :: true :: false :: false :: false :: false :: false :: false :: false :: false :: false :: false :: []).toArray) (v := ?_) rfl rfl (by kernel_rfl) (by kernel_rfl) (by kernel_rfl) (by kernel_rfl) (fun _ _ _ h => h) (by kernel_rfl) ?_ (by assumption) ?_; rotate_left 1; (focus (intro wS hSw; (try dsimp only at hSw); go_simp <;> with_reducible rfl)); simp only [List.set_cons_zero, List.set_cons_succ])
      focus (refine wpAnyH_take2 (i := 4) (fuel := 9) (L := (true :: true :: true :: true :: true :: false :: false :: false :: false :: false :: false :: false :: false :: false :: []).toArray) (v := ?_) rfl rfl (by kernel_rfl) (by kernel_rfl) (by kernel_rfl) (by kernel_rfl) (fun _ _ _ h => h) (by kernel_rfl) ?_ (by assumption) ?_; rotate_left 1; (focus (intro wS hSw; (try dsimp only at hSw); go_simp <;> with_reducible rfl)); simp only [List.set_cons_zero, List.set_cons_succ])
      focus (refine wpAnyH_take2 (i := 5) (fuel := 8) (L := (true :: true :: true :: true :: true :: true :: false :: false :: false :: false :: false :: false :: false :: false :: []).toArray) (v := ?_) rfl rfl (by kernel_rfl) (by kernel_rfl) (by kernel_rfl) (by kernel_rfl) (fun _ _ _ h => h) (by kernel_rfl) ?_ (by assumption) ?_; rotate_left 1; (focus (intro wS hSw; (try dsimp only at hSw); go_simp <;> with_reducible rfl)); simp only [List.set_cons_zero, List.set_cons_succ])
      focus (refine wpAnyH_take2 (i := 6) (fuel := 7) (L := (true :: true :: true :: true :: true :: true :: true :: false :: false :: false :: false :: false :: false :: false :: []).toArray) (v := ?_) rfl rfl (by kernel_rfl) (by kernel_rfl) (by kernel_rfl) (by kernel_rfl) (fun _ _ _ h => h) (by kernel_rfl) ?_ (by assumption) ?_; rotate_left 1; (focus (intro wS hSw; (try dsimp only at hSw); go_simp <;> with_reducible rfl)); simp only [List.set_cons_zero, List.set_cons_succ])
      refine wpAnyH_ready (rs := [7, 11]) (by kernel_rfl) (by simp) ?_
      refine AllReadyH.cons rfl (fun K hK => ?_) ?_
      focus (go_simp; refine (HC.out _ hHeld.1).mono ?_; rintro e w2 ⟨rfl, hb2⟩; (try have hqA := heap_stays hb2 hqA))
      refine hK.out _ _ (mkS _ (bel_tr hHeld.1 hb2)) (fun hHeld => ?_)
      clear hK K
      try simp only [List.setIfInBounds_toArray, List.set_cons_zero, List.set_cons_succ]
      focus (refine wpAnyH_take2 (i := 8) (fuel := 5) (L := (true :: true :: true :: true :: true :: true :: true :: true :: true :: false :: false :: false :: false :: false :: []).toArray) (v := ?_) rfl rfl (by kernel_rfl) (by kernel_rfl) (by kernel_rfl) (by kernel_rfl) (fun _ _ _ h => h) (by kernel_rfl) ?_ (by assumption) ?_; rotate_left 1; (focus (intro wS hSw; (try dsimp only at hSw); go_simp <;> with_reducible rfl)); simp only [List.set_cons_zero, List.set_cons_succ])
      focus (refine wpAnyH_take2 (i := 9) (fuel := 4) (L := (true :: true :: true :: true :: true :: true :: true :: true :: true :: true :: false :: false :: false :: false :: []).toArray) (v := ?_) rfl rfl (by kernel_rfl) (by kernel_rfl) (by kernel_rfl) (by kernel_rfl) (fun _ _ _ h => h) (by kernel_rfl) ?_ (by assumption) ?_; rotate_left 1; (focus (intro wS hSw; (try dsimp only at hSw); go_simp <;> with_reducible rfl)); simp only [List.set_cons_zero, List.set_cons_succ])
      focus (refine wpAnyH_take2 (i := 10) (fuel := 3) (L := (true :: true :: true :: true :: true :: true :: true :: true :: true :: true :: true :: false :: false :: false :: []).toArray) (v := ?_) rfl rfl (by kernel_rfl) (by kernel_rfl) (by kernel_rfl) (by kernel_rfl) (fun _ _ _ h => h) (by kernel_rfl) ?_ (by assumption) ?_; rotate_left 1; (focus (intro wS hSw; (try dsimp only at hSw); go_simp <;> with_reducible rfl)); simp only [List.set_cons_zero, List.set_cons_succ])
      refine wpAnyH_next (i := 11) (fuel := 2) (L := (true :: true :: true :: true :: true :: true :: true :: true :: true :: true :: true :: true :: false :: false :: []).toArray) rfl (by kernel_rfl) (by kernel_rfl) (by kernel_rfl) (fun K hK => ?_)
      focus (go_simp; refine al_gen5 (K := fun W => K _ W) fun wA hbA hqA => ?_; have hTw : wr.heap.size ≤ _ := hHeld.1.size)
      refine hK.out _ _ (mkS _ (bel_tr hHeld.1 hbA)) (fun hHeld => ?_)
      clear hK K
      refine wpAnyH_next (i := 12) (fuel := 1) (L := (true :: true :: true :: true :: true :: true :: true :: true :: true :: true :: true :: true :: true :: false :: []).toArray) rfl (by kernel_rfl) (by kernel_rfl) (by kernel_rfl) (fun K hK => ?_)
      focus (obtain ⟨a0, b0, c0, z0, z1, z2, f0, f1, f2⟩ := VBox.facts ⟨_, _, _, hqA⟩; go_simp)
      refine hK.out _ _ (mkS _ (bel_3 hHeld.1 hTw _ _ _)) (fun hHeld => ?_)
      clear hK K
      focus (refine wpAnyH_take2 (i := 13) (fuel := 0) (L := (true :: true :: true :: true :: true :: true :: true :: true :: true :: true :: true :: true :: true :: true :: []).toArray) (v := ?_) rfl rfl (by kernel_rfl) (by kernel_rfl) (by kernel_rfl) (by kernel_rfl) (fun _ _ _ h => h) (by kernel_rfl) ?_ (by assumption) ?_; rotate_left 1; (focus (intro wS hSw; (try dsimp only at hSw); go_simp <;> with_reducible rfl)); simp only [List.set_cons_zero, List.set_cons_succ])
      refine wpAnyH_done (by kernel_rfl) (NoPanic.normal ?_) _
      rotate_left 1
      refine AllReadyH.cons rfl (fun K hK => ?_) ?_
      focus (go_simp; refine al_gen5 (K := fun W => K _ W) fun wA hbA hqA => ?_; have hTw : wr.heap.size ≤ _ := hHeld.1.size)
      refine hK.out _ _ (mkS _ (bel_tr hHeld.1 hbA)) (fun hHeld => ?_)
      clear hK K
      try simp only [List.setIfInBounds_toArray, List.set_cons_zero, List.set_cons_succ]
      refine wpAnyH_next (i := 7) (fuel := 5) (L := (true :: true :: true :: true :: true :: true :: true :: true :: false :: false :: false :: true :: false :: false :: []).toArray) rfl (by kernel_rfl) (by kernel_rfl) (by kernel_rfl) (fun K hK => ?_)
      focus (go_simp; refine (HC.out _ hHeld.1).mono ?_; rintro e w2 ⟨rfl, hb2⟩; (try have hqA := heap_stays hb2 hqA))
      refine hK.out _ _ (mkS _ (bel_tr hHeld.1 hb2)) (fun hHeld => ?_)
      clear hK K
      focus (refine wpAnyH_take2 (i := 8) (fuel := 4) (L := (true :: true :: true :: true :: true :: true :: true :: true :: true :: false :: false :: true :: false :: false :: []).toArray) (v := ?_) rfl rfl (by kernel_rfl) (by kernel_rfl) (by kernel_rfl) (by kernel_rfl) (fun _ _ _ h => h) (by kernel_rfl) ?_ (by assumption) ?_; rotate_left 1; (focus (intro wS hSw; (try dsimp only at hSw); go_simp <;> with_reducible rfl)); simp only [List.set_cons_zero, List.set_cons_succ])
      focus (refine wpAnyH_take2 (i := 9) (fuel := 3) (L := (true :: true :: true :: true :: true :: true :: true :: true :: true :: true :: false :: true :: false :: false :: []).toArray) (v := ?_) rfl rfl (by kernel_rfl) (by kernel_rfl) (by kernel_rfl) (by kernel_rfl) (fun _ _ _ h => h) (by kernel_rfl) ?_ (by assumption) ?_; rotate_left 1; (focus (intro wS hSw; (try dsimp only at hSw); go_simp <;> with_reducible rfl)); simp only [List.set_cons_zero, List.set_cons_succ])
      focus (refine wpAnyH_take2 (i := 10) (fuel := 2) (L := (true :: true :: true :: true :: true :: true :: true :: true :: true :: true :: true :: true :: false :: false :: []).toArray) (v := ?_) rfl rfl (by kernel_rfl) (by kernel_rfl) (by kernel_rfl) (by kernel_rfl) (fun _ _ _ h => h) (by kernel_rfl) ?_ (by assumption) ?_; rotate_left 1; (focus (intro wS hSw; (try dsimp only at hSw); go_simp <;> with_reducible rfl)); simp only [List.set_cons_zero, List.set_cons_succ])
      refine wpAnyH_next (i := 12) (fuel := 1) (L := (true :: true :: true :: true :: true :: true :: true :: true :: true :: true :: true :: true :: true :: false :: []).toArray) rfl (by kernel_rfl) (by kernel_rfl) (by kernel_rfl) (fun K hK => ?_)
      focus (obtain ⟨a0, b0, c0, z0, z1, z2, f0, f1, f2⟩ := VBox.facts ⟨_, _, _, hqA⟩; go_simp)
      refine hK.out _ _ (mkS _ (bel_3 hHeld.1 hTw _ _ _)) (fun hHeld => ?_)
      clear hK K
      focus (refine wpAnyH_take2 (i := 13) (fuel := 0) (L := (true :: true :: true :: true :: true :: true :: true :: true :: true :: true :: true :: true :: true :: true :: []).toArray) (v := ?_) rfl rfl (by kernel_rfl) (by kernel_rfl) (by kernel_rfl) (by kernel_rfl) (fun _ _ _ h => h) (by kernel_rfl) ?_ (by assumption) ?_; rotate_left 1; (focus (intro wS hSw; (try dsimp only at hSw); go_simp <;> with_reducible rfl)); simp only [List.set_cons_zero, List.set_cons_succ])
      refine wpAnyH_done (by kernel_rfl) (NoPanic.normal ?_) _
      rotate_left 1
      exact AllReadyH.nil
      all_goals
        have hb8 := hHeld.1
        have hqT := three_set hqA (.int .i64 fv.kind) (.int .i64 fv.num) (.string fv.text)
        clear hHeld hqA
        clear z0 z1 z2 f0 f1 f2 a0 b0 c0 x1 e0 p0 p1 p2 p3 p4 p5 p6 p7 mkS
        generalize World.setCell _ _ _ = w5 at hqT hb8 ⊢
        first
          | (obtain ⟨T, hTe⟩ : ∃ T, T = wD.heap.size := ⟨_, rfl⟩
             rw [← hTe] at hqT
             rw [← hTe] at hTw ⊢
             clear hTe)
          | (obtain ⟨T, hTe⟩ : ∃ T, T = w2.heap.size := ⟨_, rfl⟩
             rw [← hTe] at hqT
             rw [← hTe] at hTw ⊢
             clear hTe)
        have HB5r := Lib.hid hb8
        have HB5 := Lib.hid (bel_tr hb hb8)
        have q0 : w5.cell? ⟨T, 0, none⟩ = some (.int .i64 fv.kind) := blk_cell hqT 0
        have q1 : w5.cell? ⟨T, 1, none⟩ = some (.int .i64 fv.num) := blk_cell hqT 1
        have q2 : w5.cell? ⟨T, 2, none⟩ = some (.string fv.text) := blk_cell hqT 2
        clear hqT hb8
        have h := HH.out
        by_cases hz : fe = 0
        case neg =>
          rw [if_pos hz] at h
          obtain rfl : (([], fe) : List Vl × Int) = S := by
            have h2 := HS.out
            rw [← h, retR, if_pos hz] at h2
            exact h2
          have hz' : (fe != 0) = true := by simpa using hz
          clear h hz HH q0 q1 q2
          go_wp2_with fail
          exact bodyPost_ret (v := .tuple #[.slice none 0 0, .int .i64 fe]) (by simp [results, Tryz.results44, go_sem]) rfl ⟨_, rfl, Sl.nil _ _ _ _ _ (Nat.zero_le _), bel_tr HW1.out HB5.out⟩
        subst hz
        rw [if_neg (by simp)] at h
        clear HH
        have HH := Lib.hid h
        clear h
        have hks : k < 1048576 := by omega
        have HB3 := Lib.hid (bel_al HB5r.out (.cells #[.int .i64 fv.kind, .int .i64 fv.num, .string fv.text] 88 (0, 0)))
        go_wp2_with (at_builtin; refine wpList_app _ rfl (.tmp 57) (.tmp 59) 69 rfl w1.heap.size 88 i0 _ 3 32 Tryz.underlying69 hi hz0 hz1 hz2 rfl (by decide) (.slice Ar k cr) k (vlCells pre) rfl (ownsRow_below hrow.out HB3.out) (some ⟨w5.heap.size, 0, none⟩) 1 1 [.int .i64 fv.kind, .int .i64 fv.num, .string fv.text] rfl (src_new' _ [.int .i64 fv.kind, .int .i64 fv.num, .string fv.text] _ 1 3 _ (by simp) rfl (by intro u hu; simp only [List.mem_cons, List.not_mem_nil, or_false] at hu; rcases hu with rfl | rfl | rfl <;> rfl)) (by unfold maxLen; omega) (by omega) (by have := HB3.out.size; omega) ?_; intro v8 w8 hown8 hg8 hloc8)
        have hb8 : Below w1.heap.size w1 w8 := (bel_tr hb HB3.out).trans (grown_below hg8 (by have := HB3.out.size; omega) (fun g h => (ownsRow_lt hrow.out h).1))
        refine ⟨⟨k + 1, pre ++ [fv], by omega, by simp [hpl], by go_num, Lib.hid ?_, Lib.hid ⟨?_, hb8⟩⟩, by simp [intOf]; omega⟩
        · rw [vlCells_snoc]; exact hown8
        · have h := HH.out
          rw [List.append_assoc]
          exact h
    · have hk' : ¬ (k : Int) < (rets.length : Int) := by omega
      have HVL := Lib.hid (vlRow_is (l := pre) (by rw [hpl]; exact hrow.out))
      obtain rfl : ((pre, 0) : List Vl × Int) = S := by
        have h := hI.out.1
        have h2 := HS.out
        rw [List.drop_of_length_le (by omega), evsR, List.append_nil] at h
        rw [← h] at h2
        exact h2
      go_wp2_with fail
      exact bodyPost_ret (v := .tuple #[.slice Ar k cr, .int .i64 0]) (by simp [results, Tryz.results44, go_sem]) rfl ⟨_, rfl, HVL.out, bel_tr HW1.out hb⟩
end Go.Proofs.YtclpglgigpjfoaaGreatDoor
