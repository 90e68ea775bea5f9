/- The reference's read. Printed by gen_rread.py. -/
import Derived.Test.YtclpglgigpjfoaaGreatDoorQMrlast
import Derived.Test.YtclpglgigpjfoaaGreatDoorQMagg9
import Derived.Test.YtclpglgigpjfoaaGreatDoorQMevp
namespace Go.Proofs.YtclpglgigpjfoaaGreatDoor
open Go.RowKit

set_option maxRecDepth 100000 in
set_option maxHeartbeats 16000000 in
theorem rread_any (vs : List (List Evt)) (v : Value) (own : Int) (ev : Evt) (u : Value) (x : Ex) (Ax : Option Addr) (nx cx : Nat) (w : World) (hv : IsVars w v vs) (hu : IsVls w u ev.vals)
    (hop : 0 ≤ x.op ∧ x.op ≤ 4) (hf : x.op = 1 ∨ x.op = 4 → 0 ≤ x.fl) (hsm : (evsAt vs x.vr).length ≤ 1048576) :
    Calls Tryz.prog 155 #[exV x (.slice Ax nx cx), .agg #[v], .int .i64 own, evtV ev u] w fun e w' =>
      e = .returned (.tuple #[vlV (leafR vs own ev x).1, .int .i64 (leafR vs own ev x).2]) ∧ Below w.heap.size w w' := by
  obtain ⟨op, l, vr, fl, kd, vl⟩ := x
  simp only [Ex.op, Ex.vr, Ex.fl] at hop hf hsm
  have HV := Lib.hid hv
  have HU := Lib.hid hu
  obtain ⟨A1, c1, hl, hEV⟩ := revs_at vs v vr w hv
  have HEV := Lib.hid hEV
  have HLA := Lib.hid (fun W (hW : Below w.heap.size w W) => rlast_any vs v vr own ev u W (HV.out.stays varAt_stays hW) (HU.out.stays vlAt_stays hW))
  obtain ⟨A, c, rfl, -⟩ := hv
  obtain ⟨Au, cu, rfl, -⟩ := hu
  obtain ⟨evs, hevs⟩ : ∃ e, evsAt vs vr = e := ⟨_, rfl⟩
  rw [hevs] at HEV HLA hl hsm
  obtain ⟨⟨RV, re⟩, hR⟩ : ∃ r, leafR vs own ev (.mk op l vr fl kd vl) = r := ⟨_, rfl⟩
  rw [hR]
  have HR := Lib.hid hR
  have HEQ := Lib.hid hevs
  have HL := Lib.hid hl
  have HSM := Lib.hid hsm
  have hn63 : (evs.length : Int) ≤ 9223372036854775807 := by obtain ⟨A', c', e, h1, h2, h3⟩ := hl; exact len_i64 h1 h2
  clear hevs hR hsm hl hEV
  unfold exV evtV at *
  simp only [Ex.op, Ex.vr, Ex.fl, Ex.kd, Ex.val]
  unfold vlV at *
  have hcase : op = 0 ∨ op = 3 ∨ op = 4 ∨ op = 1 ∨ op = 2 := by omega
  clear hop
  rcases hcase with rfl | rfl | rfl | rfl | rfl
  · obtain ⟨e1, e2⟩ : vl = RV ∧ 0 = re := by have h := HR.out; rw [leafR_0] at h; injection h with e1 e2; exact ⟨e1, e2⟩
    subst e1 e2
    go_enter Tryz.func155, Tryz.ntmps155
    go_wp2_with fail
    exact bodyPost_ret (v := .tuple #[.agg #[.int .i64 vl.kind, .int .i64 vl.num, .string vl.text], .int .i64 0]) (by simp [results, Tryz.results155, go_sem]) rfl ⟨rfl, (by repeat (first | exact Below.refl _ _ | assumption | refine Below.drew ?_ | refine bel_al ?_ _ | refine bel_set ?_ (by omega) _ | refine bel_tr ?_ (by assumption)))⟩
  · obtain ⟨e1, e2⟩ : numV evs.length = RV ∧ 0 = re := by have h := HR.out; rw [leafR_3, HEQ.out] at h; injection h with e1 e2; exact ⟨e1, e2⟩
    subst e1 e2
    go_enter Tryz.func155, Tryz.ntmps155
    go_wp2_with fail
    refine calls_gen fun W9 e9 => ?_
    have hB : VBox W9 (w.heap.size + 1 + 1 + 1) := ⟨.int .i64 0, .int .i64 0, .string ⟨#[]⟩, by rw [e9]; repeat (first | exact heap_new' _ _ _ (by simp) | apply heap_old)⟩
    have hb9 : Below w.heap.size w W9 := by rw [e9]; exact (by repeat (first | exact Below.refl _ _ | assumption | refine Below.drew ?_ | refine bel_al ?_ _ | refine bel_set ?_ (by omega) _ | refine bel_tr ?_ (by assumption)))
    clear e9
    refine (HEV.out _ hb9).mono ?_
    rintro e w1 ⟨rfl, hb1⟩
    obtain ⟨a0, b0, c0, z0, z1, z2, f0, f1, f2⟩ := (hB.stays hb1).facts
    go_wp2_with fail
    exact bodyPost_ret (v := .tuple #[.agg #[.int .i64 0, .int .i64 evs.length, .string ⟨#[]⟩], .int .i64 0]) (by simp [results, Tryz.results155, go_sem, cell_set_self, z0, z1, z2]) rfl ⟨rfl, bel_3 (bel_tr hb9 hb1) (by omega) _ _ _⟩
  · have hf0 : 0 ≤ fl := hf (by simp)
    obtain ⟨FR, hFR⟩ : ∃ r, fieldsR fl evs = r := ⟨_, rfl⟩
    have HTR : Hid ((if FR.2 ≠ 0 then (zeroVl, 6) else ofR kd FR.1 vl) = (RV, re)) := Lib.hid (by have h := HR.out; rw [leafR_4, HEQ.out] at h; rw [← h, ← hFR]; rfl)
    have HFR := Lib.hid hFR
    obtain ⟨i0, hi, hz0, hz1, hz2⟩ := info_parts info_vl
    clear hFR HR HEQ hf HLA
    go_enter Tryz.func155, Tryz.ntmps155
    go_wp2_with fail
    refine calls_gen fun W9 e9 => ?_
    have hX : W9.heap[w.heap.size]? = some (.cells [.int .i64 4, .slice Ax nx cx, .int .i64 vr, .int .i64 fl, .int .i64 kd, .int .i64 vl.kind, .int .i64 vl.num, .string vl.text].toArray 90 (0, 0)) := by rw [e9]; repeat (first | exact heap_new' _ _ _ (by simp) | apply heap_old)
    have hB : VBox W9 (w.heap.size + 1 + 1 + 1) := ⟨.int .i64 0, .int .i64 0, .string ⟨#[]⟩, by rw [e9]; repeat (first | exact heap_new' _ _ _ (by simp) | apply heap_old)⟩
    have hb9 : Below w.heap.size w W9 := by rw [e9]; exact (by repeat (first | exact Below.refl _ _ | assumption | refine Below.drew ?_ | refine bel_al ?_ _ | refine bel_set ?_ (by omega) _ | refine bel_tr ?_ (by assumption)))
    clear e9
    refine (HEV.out _ hb9).mono ?_
    rintro e w1 ⟨rfl, hb1⟩
    have HX := Lib.hid (heap_stays hb1 hX)
    have HB := Lib.hid (hB.stays hb1)
    have HW1 := Lib.hid (bel_tr hb9 hb1)
    obtain ⟨X, hXe⟩ : ∃ X, X = w.heap.size := ⟨_, rfl⟩
    have hXl := HB.out.lt
    rw [← hXe] at HX HB hXl ⊢
    have hXw : w.heap.size ≤ X + 1 + 1 + 1 := by omega
    have hX0 : X < w1.heap.size := by omega
    clear hX hB hb9 hb1 hXe
    go_wp2_with fail
    go_loopw [10, 12] (fun av i wr => ∃ (k : Nat) (pre : List Vl), k ≤ evs.length ∧ pre.length = k ∧ i = .int .i64 k ∧ Hid (wr.ownsRow w1.heap.size 88 3 av k (vlCells pre)) ∧ Hid ((pre ++ (fieldsR fl (evs.drop k)).1, (fieldsR fl (evs.drop k)).2) = FR ∧ Below w1.heap.size w1 wr)) (fun _ i _ => evs.length - (intOf i).toNat)
    case atStart => exact ⟨0, [], Nat.zero_le _, rfl, rfl, Lib.hid ⟨rfl, .inl ⟨rfl, rfl⟩⟩, Lib.hid ⟨by rw [List.drop_zero, HFR.out]; rfl, Below.refl _ _⟩⟩
    case round =>
      obtain ⟨k, pre, hk, hpl, rfl, hrow, hI⟩ := hrel
      have hb := hI.out.2
      obtain ⟨Ar, cr, rfl⟩ := slice_own hrow.out
      have hsz := hb.size
      by_cases hlt : k < evs.length
      · have hk' : (k : Int) < (evs.length : Int) := by omega
        have hg := Lib.hid (List.getElem?_eq_getElem hlt)
        obtain ⟨a, ha⟩ : ∃ a, a = evs[k] := ⟨_, rfl⟩
        rw [← ha] at hg
        clear ha
        obtain ⟨b, o, A', c', rfl, hbl, hvl, p0, p1, p2, p3, p4⟩ := evs_last HL.out hg.out
        have P4 := Lib.hid (cell_stays HW1.out p4)
        have Q3 : Hid (w1.cell? ⟨X, 3, none⟩ = some (.int .i64 fl)) := Lib.hid (blk_cell HX.out 3)
        have p4r := cell_stays hb P4.out
        have q3r := cell_stays hb Q3.out
        have HVL := Lib.hid hvl
        have h := hI.out.1
        rw [fieldsR_drop hg.out] at h
        clear p0 p1 p2 p3 p4 hvl
        by_cases hc : (a.vals.length : Int) ≤ fl
        · rw [fieldR_ge hc, if_pos (by simp)] at h
          obtain ⟨e1, e2⟩ : zeroVl = RV ∧ 6 = re := by
            have h2 := HTR.out
            rw [← h, if_pos (by simp)] at h2
            injection h2 with e1 e2
            exact ⟨e1, e2⟩
          subst e1 e2
          clear h
          go_wp2_with fail
          refine wp_region_F (fun W => W.cell? ⟨X, 3, none⟩ = some (.int .i64 fl) ∧ W.cell? ⟨b, o + k * 5 + 4, none⟩ = some (.slice A' a.vals.length c')) (by repeat (first | exact grows_cell _ _ _ | exact grows_true | refine grows_and ?_ ?_)) (by kernel_rfl) (by kernel_rfl) ?hF ?_; (case hF => (first | exact ⟨‹_›, ‹_›⟩ | (go_simp; done) | (simp [*]; done) | (repeat' (first | (refine And.intro ?_ ?_) | (go_simp; done) | exact cell_stays (bel_al (Below.refl _ _) _) (by assumption) | assumption)))); intro hne hxx; have hG : Hid (Grows (fun W => W.cell? ⟨X, 3, none⟩ = some (.int .i64 fl) ∧ W.cell? ⟨b, o + k * 5 + 4, none⟩ = some (.slice A' a.vals.length c'))) := (by repeat (first | exact grows_cell _ _ _ | exact grows_true | refine grows_and ?_ ?_)); (repeat (go_big_quiet_step (fail))); clear hG hxx hne; refine wpQuiet_nil ?_; rintro _ ⟨⟨w', hb', hF'⟩, rfl⟩
          obtain ⟨a0, b0, c0, z0, z1, z2, f0, f1, f2⟩ := (HB.out.stays (bel_tr hb hb')).facts
          go_wp2_with fail
          exact bodyPost_ret (v := .tuple #[.agg #[.int .i64 0, .int .i64 0, .string ⟨#[]⟩], .int .i64 6]) (by simp [results, Tryz.results155, go_sem, cell_set_self, z0, z1, z2]) rfl ⟨rfl, bel_3 (bel_tr HW1.out (bel_tr hb hb')) (by omega) _ _ _⟩
        have hc' : fl < (a.vals.length : Int) := by omega
        rw [fieldR_lt hf0 hc', if_neg (by simp)] at h
        have HH := Lib.hid h
        clear h hc
        go_wp2_with fail
        refine wp_region_F (fun W => W.cell? ⟨X, 3, none⟩ = some (.int .i64 fl) ∧ W.cell? ⟨b, o + k * 5 + 4, none⟩ = some (.slice A' a.vals.length c')) (by repeat (first | exact grows_cell _ _ _ | exact grows_true | refine grows_and ?_ ?_)) (by kernel_rfl) (by kernel_rfl) ?hF ?_; (case hF => (first | exact ⟨‹_›, ‹_›⟩ | (go_simp; done) | (simp [*]; done) | (repeat' (first | (refine And.intro ?_ ?_) | (go_simp; done) | exact cell_stays (bel_al (Below.refl _ _) _) (by assumption) | assumption)))); intro hne hxx; have hG : Hid (Grows (fun W => W.cell? ⟨X, 3, none⟩ = some (.int .i64 fl) ∧ W.cell? ⟨b, o + k * 5 + 4, none⟩ = some (.slice A' a.vals.length c'))) := (by repeat (first | exact grows_cell _ _ _ | exact grows_true | refine grows_and ?_ ?_)); (repeat (go_big_quiet_step (fail))); clear hG hxx hne; refine wpQuiet_nil ?_; rintro _ ⟨⟨w', hb', hF'⟩, rfl⟩
        go_wp2_with fail
        have HB2 := Lib.hid (bel_tr hb hb')
        obtain ⟨n, hnf⟩ : ∃ n : Nat, fl = n := ⟨fl.toNat, by omega⟩
        obtain ⟨bv, ov, hAv, hbv, t0, t1, t2⟩ := vls_cells (HVL.out.stays vlAt_stays HW1.out) (k := n) (by omega)
        subst hAv
        have hnt : fl.toNat = n := by omega
        rw [hnt] at HH
        obtain ⟨fv, hfv⟩ : ∃ y, a.vals.getD n zeroVl = y := ⟨_, rfl⟩
        rw [hfv] at t0 t1 t2 HH
        have T0 := Lib.hid t0
        have T1 := Lib.hid t1
        have T2 := Lib.hid t2
        have hnl : (n : Int) < (a.vals.length : Int) := by omega
        rw [hnf] at Q3
        have hks : k < 1048576 := by have := HSM.out; omega
        have hR := (ownsRow_below hrow.out hb')
        clear hfv t0 t1 t2 hF' hb' hc' hnt p4r q3r hbv
        obtain ⟨av, hAV⟩ : ∃ av, av = Value.slice Ar k cr := ⟨_, rfl⟩
        rw [← hAV] at hR ⊢
        clear hAV
        have mkS : ∀ W, Below w1.heap.size w1 W → (fun W => Below w1.heap.size w1 W ∧ W.cell? ⟨X, 3, none⟩ = some (.int .i64 n) ∧ W.cell? ⟨b, o + k * 5 + 4, none⟩ = some (.slice (some ⟨bv, ov, none⟩) a.vals.length c') ∧ W.cell? ⟨bv, ov + n * 3, none⟩ = some (.int .i64 fv.kind) ∧ W.cell? ⟨bv, ov + n * 3 + 1, none⟩ = some (.int .i64 fv.num) ∧ W.cell? ⟨bv, ov + n * 3 + 2, none⟩ = some (.string fv.text)) W := fun W hW => ⟨hW, cell_stays hW Q3.out, cell_stays hW P4.out, cell_stays hW T0.out, cell_stays hW T1.out, cell_stays hW T2.out⟩
        refine wp_region_noPanic ?_
        refine wp_region_held_drew (S := fun W => Below w1.heap.size w1 W ∧ W.cell? ⟨X, 3, none⟩ = some (.int .i64 n) ∧ W.cell? ⟨b, o + k * 5 + 4, none⟩ = some (.slice (some ⟨bv, ov, none⟩) a.vals.length c') ∧ W.cell? ⟨bv, ov + n * 3, none⟩ = some (.int .i64 fv.kind) ∧ W.cell? ⟨bv, ov + n * 3 + 1, none⟩ = some (.int .i64 fv.num) ∧ W.cell? ⟨bv, ov + n * 3 + 2, none⟩ = some (.string fv.text)) (by kernel_rfl) (mkS _ HB2.out.drew) (fun hHeld => ?_)
        have hR := ownsRow_below hR (Below.refl _ _).drew
        generalize World.drew _ = wD at hHeld hR ⊢
        focus (refine wpAnyH_take2 (i := 0) (fuel := 12) (L := (true :: false :: false :: false :: false :: false :: false :: false :: false :: false :: false :: false :: false :: []).toArray) (v := ?_) rfl rfl (by kernel_rfl) (by kernel_rfl) (by kernel_rfl) (by kernel_rfl) (fun _ _ _ h => h) (by kernel_rfl) ?_ (by assumption) ?_; rotate_left 1; (focus (intro wS hSw; (try dsimp only at hSw); go_simp <;> with_reducible rfl)); simp only [List.set_cons_zero, List.set_cons_succ])
        focus (refine wpAnyH_take2 (i := 1) (fuel := 11) (L := (true :: true :: false :: false :: false :: false :: false :: false :: false :: false :: false :: false :: false :: []).toArray) (v := ?_) rfl rfl (by kernel_rfl) (by kernel_rfl) (by kernel_rfl) (by kernel_rfl) (fun _ _ _ h => h) (by kernel_rfl) ?_ (by assumption) ?_; rotate_left 1; (focus (intro wS hSw; (try dsimp only at hSw); go_simp <;> with_reducible rfl)); simp only [List.set_cons_zero, List.set_cons_succ])
        focus (refine wpAnyH_take2 (i := 2) (fuel := 10) (L := (true :: true :: true :: false :: false :: false :: false :: false :: false :: false :: false :: false :: false :: []).toArray) (v := ?_) rfl rfl (by kernel_rfl) (by kernel_rfl) (by kernel_rfl) (by kernel_rfl) (fun _ _ _ h => h) (by kernel_rfl) ?_ (by assumption) ?_; rotate_left 1; (focus (intro wS hSw; (try dsimp only at hSw); go_simp <;> with_reducible rfl)); simp only [List.set_cons_zero, List.set_cons_succ])
        focus (refine wpAnyH_take2 (i := 3) (fuel := 9) (L := (true :: true :: true :: true :: false :: false :: false :: false :: false :: false :: false :: false :: false :: []).toArray) (v := ?_) rfl rfl (by kernel_rfl) (by kernel_rfl) (by kernel_rfl) (by kernel_rfl) (fun _ _ _ h => h) (by kernel_rfl) ?_ (by assumption) ?_; rotate_left 1; (focus (intro wS hSw; (try dsimp only at hSw); go_simp <;> with_reducible rfl)); simp only [List.set_cons_zero, List.set_cons_succ])
        focus (refine wpAnyH_take2 (i := 4) (fuel := 8) (L := (true :: true :: true :: true :: true :: false :: false :: false :: false :: false :: false :: false :: false :: []).toArray) (v := ?_) rfl rfl (by kernel_rfl) (by kernel_rfl) (by kernel_rfl) (by kernel_rfl) (fun _ _ _ h => h) (by kernel_rfl) ?_ (by assumption) ?_; rotate_left 1; (focus (intro wS hSw; (try dsimp only at hSw); go_simp <;> with_reducible rfl)); simp only [List.set_cons_zero, List.set_cons_succ])
        focus (refine wpAnyH_take2 (i := 5) (fuel := 7) (L := (true :: true :: true :: true :: true :: true :: false :: false :: false :: false :: false :: false :: false :: []).toArray) (v := ?_) rfl rfl (by kernel_rfl) (by kernel_rfl) (by kernel_rfl) (by kernel_rfl) (fun _ _ _ h => h) (by kernel_rfl) ?_ (by assumption) ?_; rotate_left 1; (focus (intro wS hSw; (try dsimp only at hSw); go_simp <;> with_reducible rfl)); simp only [List.set_cons_zero, List.set_cons_succ])
        focus (refine wpAnyH_take2 (i := 6) (fuel := 6) (L := (true :: true :: true :: true :: true :: true :: true :: false :: false :: false :: false :: false :: false :: []).toArray) (v := ?_) rfl rfl (by kernel_rfl) (by kernel_rfl) (by kernel_rfl) (by kernel_rfl) (fun _ _ _ h => h) (by kernel_rfl) ?_ (by assumption) ?_; rotate_left 1; (focus (intro wS hSw; (try dsimp only at hSw); go_simp <;> with_reducible rfl)); simp only [List.set_cons_zero, List.set_cons_succ])
        focus (refine wpAnyH_take2 (i := 7) (fuel := 5) (L := (true :: true :: true :: true :: true :: true :: true :: true :: false :: false :: false :: false :: false :: []).toArray) (v := ?_) rfl rfl (by kernel_rfl) (by kernel_rfl) (by kernel_rfl) (by kernel_rfl) (fun _ _ _ h => h) (by kernel_rfl) ?_ (by assumption) ?_; rotate_left 1; (focus (intro wS hSw; (try dsimp only at hSw); go_simp <;> with_reducible rfl)); simp only [List.set_cons_zero, List.set_cons_succ])
        focus (refine wpAnyH_take2 (i := 8) (fuel := 4) (L := (true :: true :: true :: true :: true :: true :: true :: true :: true :: false :: false :: false :: false :: []).toArray) (v := ?_) rfl rfl (by kernel_rfl) (by kernel_rfl) (by kernel_rfl) (by kernel_rfl) (fun _ _ _ h => h) (by kernel_rfl) ?_ (by assumption) ?_; rotate_left 1; (focus (intro wS hSw; (try dsimp only at hSw); go_simp <;> with_reducible rfl)); simp only [List.set_cons_zero, List.set_cons_succ])
        focus (refine wpAnyH_take2 (i := 9) (fuel := 3) (L := (true :: true :: true :: true :: true :: true :: true :: true :: true :: true :: false :: false :: false :: []).toArray) (v := ?_) rfl rfl (by kernel_rfl) (by kernel_rfl) (by kernel_rfl) (by kernel_rfl) (fun _ _ _ h => h) (by kernel_rfl) ?_ (by assumption) ?_; rotate_left 1; (focus (intro wS hSw; (try dsimp only at hSw); go_simp <;> with_reducible rfl)); simp only [List.set_cons_zero, List.set_cons_succ])
        refine wpAnyH_next (i := 10) (fuel := 2) (L := (true :: true :: true :: true :: true :: true :: true :: true :: true :: true :: true :: false :: false :: []).toArray) rfl (by kernel_rfl) (by kernel_rfl) (by kernel_rfl) (fun K hK => ?_)
        focus (go_simp; refine al_src (K := fun W => K _ W) (cs := [.int .i64 fv.kind, .int .i64 fv.num, .string fv.text]) (n := 1) (sz := 3) rfl (by intro u hu; simp only [List.mem_cons, List.not_mem_nil, or_false] at hu; rcases hu with rfl | rfl | rfl <;> rfl) fun wA hbA hsA => ?_; have hR := ownsRow_below hR hbA)
        refine hK.out _ _ (mkS _ (bel_tr hHeld.1 hbA)) (fun hHeld => ?_)
        clear hK K
        refine wpAnyH_next (i := 11) (fuel := 1) (L := (true :: true :: true :: true :: true :: true :: true :: true :: true :: true :: true :: true :: false :: []).toArray) rfl (by kernel_rfl) (by kernel_rfl) (by kernel_rfl) (fun K hK => ?_)
        focus (refine at_app _ (.tmp 52) (.tmp 62) 69 (by rfl) w1.heap.size 88 i0 _ 3 32 Tryz.underlying69 hi hz0 hz1 hz2 rfl (by decide) av k (vlCells pre) (by rfl) hR _ 1 1 _ (by rfl) hsA (by unfold maxLen; omega) (by omega) (hHeld.1.size) ?_; intro v8 w8 hown8 hg8 hloc8)
        refine hK.out _ _ (mkS _ (hHeld.1.trans (grown_below hg8 hHeld.1.size (fun g h => (ownsRow_lt hR h).1)))) (fun hHeld => ?_)
        clear hK K
        focus (refine wpAnyH_take2 (i := 12) (fuel := 0) (L := (true :: true :: true :: true :: true :: true :: true :: true :: true :: true :: true :: true :: true :: []).toArray) (v := ?_) rfl rfl (by kernel_rfl) (by kernel_rfl) (by kernel_rfl) (by kernel_rfl) (fun _ _ _ h => h) (by kernel_rfl) ?_ (by assumption) ?_; rotate_left 1; (focus (intro wS hSw; (try dsimp only at hSw); go_simp <;> with_reducible rfl)); simp only [List.set_cons_zero, List.set_cons_succ])
        refine wpAnyH_done (by kernel_rfl) (NoPanic.normal ?_) _
        rotate_left 1
        have hb8 := hHeld.1
        go_wp2_with fail
        go_roundw
        case rel =>
          refine ⟨_, _, _, ⟨k + 1, by omega, pre ++ [fv], by simp [hpl], by go_num, Lib.hid (by rw [vlCells_snoc]; exact hown8), Lib.hid ?_⟩, rfl, rfl, rfl⟩
          have h := HH.out
          rw [List.append_assoc, ← hnf]
          exact h
        case measure => simp [intOf]; omega
      · have hk' : ¬ (k : Int) < (evs.length : Int) := by omega
        have HVL : Hid (IsVls wr (.slice Ar k cr) pre) := Lib.hid (vlRow_is (by rw [hpl]; exact hrow.out))
        have hOf : ofR kd pre vl = (RV, re) := by
          have h := hI.out.1
          rw [List.drop_of_length_le (by omega), fieldsR, List.append_nil] at h
          have h2 := HTR.out
          rw [← h, if_neg (by simp)] at h2
          exact h2
        have HO := Lib.hid (fun W (hW : Below wr.heap.size wr W) => rof_agg kd pre vl _ W (HVL.out.stays vlAt_stays hW))
        rw [hOf] at HO
        unfold vlV at HO
        obtain ⟨q0, q1, q2, q3, q4, q5, q6, q7⟩ := blk8 (heap_stays hb HX.out)
        clear hOf
        go_wp2_with fail
        refine (HO.out _ (Below.refl _ _)).mono ?_
        rintro e w2 ⟨rfl, hb2⟩
        obtain ⟨a0, b0, c0, z0, z1, z2, f0, f1, f2⟩ := (HB.out.stays (bel_tr hb hb2)).facts
        go_wp2_with fail
        exact bodyPost_ret (v := .tuple #[.agg #[.int .i64 RV.kind, .int .i64 RV.num, .string RV.text], .int .i64 re]) (by simp [results, Tryz.results155, go_sem, cell_set_self, z0, z1, z2]) rfl ⟨rfl, bel_3 (bel_tr HW1.out (bel_tr hb hb2)) (by omega) _ _ _⟩
  · obtain ⟨R, hRl⟩ : ∃ r, lastR evs (decide (vr = own)) ev = r := ⟨_, rfl⟩
    have hend : endR (.mk 1 l vr fl kd vl) R = (RV, re) := by have h := HR.out; rw [leafR_1, HEQ.out, hRl] at h; exact h
    rw [hRl] at HLA
    have HEN := Lib.hid hend
    clear hRl hend HR HEQ
    cases R with
    | none =>
      obtain ⟨e1, e2⟩ : zeroVl = RV ∧ 10 = re := by have h := HEN.out; rw [endR_n] at h; injection h with e1 e2; exact ⟨e1, e2⟩
      subst e1 e2
      go_enter Tryz.func155, Tryz.ntmps155
      go_wp2_with fail
      refine calls_gen fun W9 e9 => ?_
      have hB : VBox W9 (w.heap.size + 1 + 1 + 1) := ⟨.int .i64 0, .int .i64 0, .string ⟨#[]⟩, by rw [e9]; repeat (first | exact heap_new' _ _ _ (by simp) | apply heap_old)⟩
      have hb9 : Below w.heap.size w W9 := by rw [e9]; exact (by repeat (first | exact Below.refl _ _ | assumption | refine Below.drew ?_ | refine bel_al ?_ _ | refine bel_set ?_ (by omega) _ | refine bel_tr ?_ (by assumption)))
      clear e9
      refine (HLA.out _ hb9).mono ?_
      rintro e w2 ⟨rfl, hb2⟩
      have hB2 := hB.stays hb2
      have hxl := hB2.lt
      obtain ⟨a0, b0, c0, z0, z1, z2, f0, f1, f2⟩ := hB2.facts
      go_wp2_with fail
      exact bodyPost_ret (v := .tuple #[.agg #[.int .i64 0, .int .i64 0, .string ⟨#[]⟩], .int .i64 10]) (by simp [results, Tryz.results155, go_sem, cell_set_self, z0, z1, z2, hxl]) rfl ⟨rfl, bel_al (bel_3 (bel_tr hb9 hb2) (by omega) _ _ _) _⟩
    | some la =>
    go_enter Tryz.func155, Tryz.ntmps155
    go_wp2_with fail
    refine calls_gen fun W9 e9 => ?_
    have hX : W9.heap[w.heap.size]? = some (.cells [.int .i64 1, .slice Ax nx cx, .int .i64 vr, .int .i64 fl, .int .i64 kd, .int .i64 vl.kind, .int .i64 vl.num, .string vl.text].toArray 90 (0, 0)) := by rw [e9]; repeat (first | exact heap_new' _ _ _ (by simp) | apply heap_old)
    have hB : VBox W9 (w.heap.size + 1 + 1 + 1) := ⟨.int .i64 0, .int .i64 0, .string ⟨#[]⟩, by rw [e9]; repeat (first | exact heap_new' _ _ _ (by simp) | apply heap_old)⟩
    have hb9 : Below w.heap.size w W9 := by rw [e9]; exact (by repeat (first | exact Below.refl _ _ | assumption | refine Below.drew ?_ | refine bel_al ?_ _ | refine bel_set ?_ (by omega) _ | refine bel_tr ?_ (by assumption)))
    clear e9
    refine (HLA.out _ hb9).mono ?_
    rintro e w2 ⟨A', c', rfl, hvl, hb2⟩
    have HVL := Lib.hid hvl
    have HX := Lib.hid (heap_stays hb2 hX)
    have HB := Lib.hid (hB.stays hb2)
    have HW2 := Lib.hid (bel_tr hb9 hb2)
    obtain ⟨X, hXe⟩ : ∃ X, X = w.heap.size := ⟨_, rfl⟩
    have hXl := HB.out.lt
    rw [← hXe] at HX HB hXl ⊢
    have hXw : w.heap.size ≤ X + 1 + 1 + 1 := by omega
    have hX0 : X < w2.heap.size := by omega
    obtain ⟨q0, q1, q2, q3, q4, q5, q6, q7⟩ := blk8 HX.out
    obtain ⟨a0, b0, c0, z0, z1, z2, f0, f1, f2⟩ := HB.out.facts
    clear hX hB hb9 hb2 hXe hvl HLA HEV
    have h := HEN.out
    rw [endR_1] at h
    have hf0 : 0 ≤ fl := hf (by simp)
    obtain ⟨n, rfl⟩ : ∃ n : Nat, fl = n := ⟨fl.toNat, by omega⟩
    by_cases hc : (la.vals.length : Int) ≤ (n : Int)
    · rw [fieldR_ge hc, if_pos (by simp)] at h
      injection h with e1 e2
      subst e1 e2
      go_wp2_with fail
      exact bodyPost_ret (v := .tuple #[.agg #[.int .i64 0, .int .i64 0, .string ⟨#[]⟩], .int .i64 6]) (by simp [results, Tryz.results155, go_sem, cell_set_self, z0, z1, z2, hXl]) rfl ⟨rfl, bel_al (bel_3 HW2.out (by omega) _ _ _) _⟩
    have hc' : (n : Int) < (la.vals.length : Int) := by omega
    rw [fieldR_lt (by omega) hc', if_neg (by simp), Int.toNat_natCast] at h
    obtain ⟨bv, ov, hAv, hbv, t0, t1, t2⟩ := vls_cells HVL.out (k := n) (by omega)
    subst hAv
    obtain ⟨fv, hfv⟩ : ∃ y, la.vals.getD n zeroVl = y := ⟨_, rfl⟩
    rw [hfv] at t0 t1 t2 h
    obtain ⟨ce, hce⟩ : ∃ c, valE fv = c := ⟨_, rfl⟩
    have HCK := Lib.hid (fun W => rvcheck_any fv W)
    simp only [hce] at HCK h
    unfold vlV at HCK
    have HH := Lib.hid h
    clear h hce hfv hc
    go_wp2_with fail
    refine (HCK.out _).mono ?_
    rintro e w3 ⟨rfl, hb3⟩
    have hnew := (new_cells hb3).1
    have y0 : w3.cell? ⟨w2.heap.size, 0, none⟩ = some (.int .i64 la.src) := by rw [hnew]; rfl
    have y1 : w3.cell? ⟨w2.heap.size, 1, none⟩ = some (.int .i64 la.sq) := by rw [hnew]; rfl
    have y2 : w3.cell? ⟨w2.heap.size, 2, none⟩ = some (.int .i64 la.ty) := by rw [hnew]; rfl
    have y3 : w3.cell? ⟨w2.heap.size, 3, none⟩ = some (.int .i64 la.tm) := by rw [hnew]; rfl
    have y4 : w3.cell? ⟨w2.heap.size, 4, none⟩ = some (.slice (some ⟨bv, ov, none⟩) la.vals.length c') := by rw [hnew]; rfl
    have hb3' : Below w2.heap.size w2 w3 := bel_tr (bel_one w2 _) hb3
    have HW3 := Lib.hid (bel_tr HW2.out hb3')
    replace t0 := cell_stays hb3' t0
    replace t1 := cell_stays hb3' t1
    replace t2 := cell_stays hb3' t2
    replace q3 := cell_stays hb3' q3
    have hXl3 : X + 1 + 1 + 1 < w3.heap.size := by have := hb3'.size; omega
    have HB3 := Lib.hid (HB.out.stays hb3')
    clear z0 z1 z2 f0 f1 f2 a0 b0 c0 q0 q1 q2 q4 q5 q6 q7 hnew hb3 hb3'
    obtain ⟨a0, b0, c0, z0, z1, z2, f0, f1, f2⟩ := HB3.out.facts
    have h := HH.out
    by_cases hc : ce = 0
    case neg =>
      rw [if_pos hc] at h
      injection h with e1 e2
      subst e1 e2
      have hc2 : (ce != 0) = true := by simpa using hc
      go_wp2_with fail
      exact bodyPost_ret (v := .tuple #[.agg #[.int .i64 0, .int .i64 0, .string ⟨#[]⟩], .int .i64 ce]) (by simp [results, Tryz.results155, go_sem, cell_set_self, z0, z1, z2]) rfl ⟨rfl, bel_3 HW3.out (by omega) _ _ _⟩
    subst hc
    rw [if_neg (by simp)] at h
    injection h with e1 e2
    subst e1 e2
    go_wp2_with fail
    exact bodyPost_ret (v := .tuple #[.agg #[.int .i64 fv.kind, .int .i64 fv.num, .string fv.text], .int .i64 0]) (by simp [results, Tryz.results155, go_sem, cell_set_self, z0, z1, z2]) rfl ⟨rfl, bel_3 HW3.out (by omega) _ _ _⟩
  · obtain ⟨R, hRl⟩ : ∃ r, lastR evs (decide (vr = own)) ev = r := ⟨_, rfl⟩
    have hend : endR (.mk 2 l vr fl kd vl) R = (RV, re) := by have h := HR.out; rw [leafR_2, HEQ.out, hRl] at h; exact h
    rw [hRl] at HLA
    have HEN := Lib.hid hend
    clear hRl hend HR HEQ
    cases R with
    | none =>
      obtain ⟨e1, e2⟩ : zeroVl = RV ∧ 10 = re := by have h := HEN.out; rw [endR_n] at h; injection h with e1 e2; exact ⟨e1, e2⟩
      subst e1 e2
      go_enter Tryz.func155, Tryz.ntmps155
      go_wp2_with fail
      refine calls_gen fun W9 e9 => ?_
      have hB : VBox W9 (w.heap.size + 1 + 1 + 1) := ⟨.int .i64 0, .int .i64 0, .string ⟨#[]⟩, by rw [e9]; repeat (first | exact heap_new' _ _ _ (by simp) | apply heap_old)⟩
      have hb9 : Below w.heap.size w W9 := by rw [e9]; exact (by repeat (first | exact Below.refl _ _ | assumption | refine Below.drew ?_ | refine bel_al ?_ _ | refine bel_set ?_ (by omega) _ | refine bel_tr ?_ (by assumption)))
      clear e9
      refine (HLA.out _ hb9).mono ?_
      rintro e w2 ⟨rfl, hb2⟩
      have hB2 := hB.stays hb2
      have hxl := hB2.lt
      obtain ⟨a0, b0, c0, z0, z1, z2, f0, f1, f2⟩ := hB2.facts
      go_wp2_with fail
      exact bodyPost_ret (v := .tuple #[.agg #[.int .i64 0, .int .i64 0, .string ⟨#[]⟩], .int .i64 10]) (by simp [results, Tryz.results155, go_sem, cell_set_self, z0, z1, z2, hxl]) rfl ⟨rfl, bel_al (bel_3 (bel_tr hb9 hb2) (by omega) _ _ _) _⟩
    | some la =>
    go_enter Tryz.func155, Tryz.ntmps155
    go_wp2_with fail
    refine calls_gen fun W9 e9 => ?_
    have hX : W9.heap[w.heap.size]? = some (.cells [.int .i64 2, .slice Ax nx cx, .int .i64 vr, .int .i64 fl, .int .i64 kd, .int .i64 vl.kind, .int .i64 vl.num, .string vl.text].toArray 90 (0, 0)) := by rw [e9]; repeat (first | exact heap_new' _ _ _ (by simp) | apply heap_old)
    have hB : VBox W9 (w.heap.size + 1 + 1 + 1) := ⟨.int .i64 0, .int .i64 0, .string ⟨#[]⟩, by rw [e9]; repeat (first | exact heap_new' _ _ _ (by simp) | apply heap_old)⟩
    have hb9 : Below w.heap.size w W9 := by rw [e9]; exact (by repeat (first | exact Below.refl _ _ | assumption | refine Below.drew ?_ | refine bel_al ?_ _ | refine bel_set ?_ (by omega) _ | refine bel_tr ?_ (by assumption)))
    clear e9
    refine (HLA.out _ hb9).mono ?_
    rintro e w2 ⟨A', c', rfl, hvl, hb2⟩
    have HVL := Lib.hid hvl
    have HX := Lib.hid (heap_stays hb2 hX)
    have HB := Lib.hid (hB.stays hb2)
    have HW2 := Lib.hid (bel_tr hb9 hb2)
    obtain ⟨X, hXe⟩ : ∃ X, X = w.heap.size := ⟨_, rfl⟩
    have hXl := HB.out.lt
    rw [← hXe] at HX HB hXl ⊢
    have hXw : w.heap.size ≤ X + 1 + 1 + 1 := by omega
    have hX0 : X < w2.heap.size := by omega
    obtain ⟨q0, q1, q2, q3, q4, q5, q6, q7⟩ := blk8 HX.out
    obtain ⟨a0, b0, c0, z0, z1, z2, f0, f1, f2⟩ := HB.out.facts
    clear hX hB hb9 hb2 hXe hvl HLA HEV
    obtain ⟨e1, e2⟩ : numV la.tm = RV ∧ 0 = re := by have h := HEN.out; rw [endR_2] at h; injection h with e1 e2; exact ⟨e1, e2⟩
    subst e1 e2
    go_wp2_with fail
    exact bodyPost_ret (v := .tuple #[.agg #[.int .i64 0, .int .i64 la.tm, .string ⟨#[]⟩], .int .i64 0]) (by simp [results, Tryz.results155, go_sem, cell_set_self, z0, z1, z2, hXl]) rfl ⟨rfl, bel_al (bel_3 HW2.out (by omega) _ _ _) _⟩
end Go.Proofs.YtclpglgigpjfoaaGreatDoor
namespace Go.Proofs.YtclpglgigpjfoaaGreatDoor
open Go.RowKit

set_option maxRecDepth 100000 in
set_option maxHeartbeats 16000000 in
theorem reval_step (d : Nat) (vs : List (List Evt)) (v : Value) (own : Int) (ev : Evt) (u : Value) (hsm : ∀ k, (evsAt vs k).length ≤ 1048576)
    (hrec : ∀ d', d = d' + 1 → ∀ (x : Ex) (vx : Value) (w : World), IsVars w v vs → IsVls w u ev.vals → IsExs d' w vx x.args → nodesE x = 0 →
      Calls Tryz.prog 116 #[exV x vx, .agg #[v], .int .i64 own, evtV ev u] w fun e w' => e = .returned (.tuple #[vlV (evalR vs own ev x).1, .int .i64 (evalR vs own ev x).2]) ∧ Below w.heap.size w w')
    (x : Ex) (vx : Value) (w : World) (hv : IsVars w v vs) (hu : IsVls w u ev.vals) (hx : IsExs d w vx x.args) (hn : nodesE x = 0) :
    Calls Tryz.prog 116 #[exV x vx, .agg #[v], .int .i64 own, evtV ev u] w fun e w' => e = .returned (.tuple #[vlV (evalR vs own ev x).1, .int .i64 (evalR vs own ev x).2]) ∧ Below w.heap.size w w' := by
  have HREC := Lib.hid hrec
  have HV := Lib.hid hv
  have HU := Lib.hid hu
  obtain ⟨hn1, hnA⟩ := nodesE_at hn
  obtain ⟨n0, n12, nar, nfl⟩ := node_ok hn1
  obtain ⟨op, l, vr, fl, kd, vl⟩ := x
  obtain ⟨⟨RV, re⟩, hR⟩ : ∃ r, evalR vs own ev (.mk op l vr fl kd vl) = r := ⟨_, rfl⟩
  rw [hR]
  simp only [Ex.op, Ex.args, Ex.fl] at n0 n12 nar nfl hnA hx
  obtain ⟨A, c, rfl, -⟩ := hv
  obtain ⟨Au, cu, rfl, -⟩ := hu
  obtain ⟨Ax, cx, rfl, h1, h2, hat⟩ := hx
  have hn63 := len_i64 h1 h2
  have HL := Lib.hid hat
  have HNA := Lib.hid hnA
  have HNF := Lib.hid nfl
  have HSM := Lib.hid hsm
  clear hrec hn hn1 hnA h1 h2 hat nfl hsm
  rw [evalR_mk] at hR
  by_cases hl0 : l.length = 0
  · obtain rfl : l = [] := List.eq_nil_of_length_eq_zero hl0
    rw [if_pos hl0] at hR
    have hop4 := arN_leaf n0 n12 nar.symm
    have HLF := Lib.hid (fun W (hW : Below w.heap.size w W) => rread_any vs _ own ev _ (.mk op [] vr fl kd vl) Ax 0 cx W (HV.out.stays varAt_stays hW) (HU.out.stays vlAt_stays hW) ⟨n0, hop4⟩ HNF.out (HSM.out _))
    rw [hR] at HLF
    clear hR hl0 nar HL HNA HREC hn63
    unfold evtV exV at *
    simp only [Ex.op, Ex.vr, Ex.fl, Ex.kd, Ex.val, List.length_nil] at *
    unfold vlV at *
    go_enter Tryz.func116, Tryz.ntmps116
    go_wp2_with fail
    refine calls_gen fun W9 e1 => ?_
    have hB : VBox W9 (w.heap.size + 1 + 1 + 1) := ⟨.int .i64 0, .int .i64 0, .string ⟨#[]⟩, by rw [e1]; repeat (first | exact heap_new' _ _ _ (by simp) | apply heap_old)⟩
    have hb9 : Below w.heap.size w W9 := by rw [e1]; exact (by repeat (first | exact Below.refl _ _ | assumption | refine Below.drew ?_ | refine bel_al ?_ _ | refine bel_set ?_ (by omega) _ | refine bel_tr ?_ (by assumption)))
    clear e1
    refine (HLF.out _ hb9).mono ?_
    rintro e w1 ⟨rfl, hb1⟩
    obtain ⟨a0, b0, c0, z0, z1, z2, f0, f1, f2⟩ := (hB.stays hb1).facts
    go_wp2_with fail
    exact bodyPost_ret (v := .tuple #[.agg #[.int .i64 RV.kind, .int .i64 RV.num, .string RV.text], .int .i64 re]) (by simp [results, Tryz.results116, go_sem, cell_set_self, z0, z1, z2]) rfl ⟨rfl, bel_3 (bel_tr hb9 hb1) (by omega) _ _ _⟩
  have hl0' : ((l.length : Int) == 0) = false := by rw [beq_eq_false_iff_ne]; omega
  rw [if_neg hl0] at hR
  obtain ⟨n5, nar2⟩ := arN_node n0 n12 (by omega)
  rw [nar2] at nar
  have hl2 : l.length ≤ 2 := by split at nar <;> omega
  obtain ⟨FR, hFR⟩ : ∃ r, evalL vs own ev l = r := ⟨_, rfl⟩
  rw [hFR] at hR
  have HR := Lib.hid hR
  have HFR := Lib.hid hFR
  have HAR := Lib.hid nar
  clear hR hFR hl0 nar2 nar
  unfold evtV exV at *
  simp only [Ex.op, Ex.args, Ex.vr, Ex.fl, Ex.kd, Ex.val] at *
  unfold vlV at *
  obtain ⟨i0, hi, hz0, hz1, hz2⟩ := info_parts info_vl
  obtain ⟨i1, hi1, hy0, hy1, hy2⟩ := info_parts info_int
  go_enter Tryz.func116, Tryz.ntmps116
  go_wp2_with fail
  refine wp_gen fun w1 e1 => ?_
  have hX : w1.heap[w.heap.size]? = some (.cells [.int .i64 op, .slice Ax l.length cx, .int .i64 vr, .int .i64 fl, .int .i64 kd, .int .i64 vl.kind, .int .i64 vl.num, .string vl.text].toArray 90 (0, 0)) := by rw [e1]; repeat (first | exact heap_new' _ _ _ (by simp) | apply heap_old)
  have hE : w1.heap[w.heap.size + 1]? = some (.cells [.slice A vs.length c].toArray 46 (0, 0)) := by rw [e1]; repeat (first | exact heap_new' _ _ _ (by simp) | apply heap_old)
  have hV : w1.heap[w.heap.size + 1 + 1]? = some (.cells [.int .i64 ev.src, .int .i64 ev.sq, .int .i64 ev.ty, .int .i64 ev.tm, .slice Au ev.vals.length cu].toArray 71 (0, 0)) := by rw [e1]; repeat (first | exact heap_new' _ _ _ (by simp) | apply heap_old)
  have hB : VBox w1 (w.heap.size + 1 + 1 + 1) := ⟨.int .i64 0, .int .i64 0, .string ⟨#[]⟩, by rw [e1]; repeat (first | exact heap_new' _ _ _ (by simp) | apply heap_old)⟩
  have hb1 : Below w.heap.size w w1 := by rw [e1]; exact (by repeat (first | exact Below.refl _ _ | assumption | refine Below.drew ?_ | refine bel_al ?_ _ | refine bel_set ?_ (by omega) _ | refine bel_tr ?_ (by assumption)))
  have HX := Lib.hid hX
  have HB := Lib.hid hB
  have HW1 := Lib.hid hb1
  have HE := Lib.hid (blk_cell hE 0)
  have HEV := Lib.hid hV
  have hXl := hB.lt
  obtain ⟨X, hXe⟩ : ∃ X, X = w.heap.size := ⟨_, rfl⟩
  have hXw : w.heap.size ≤ X + 1 + 1 + 1 := by omega
  rw [← hXe] at HX HB HE HEV hXl ⊢
  clear hX hE hV hB hb1 e1 hXe
  go_loopw [10, 11, 12] (fun av bv i wr => ∃ (k : Nat) (pre : List Vl), k ≤ l.length ∧ pre.length = k ∧ i = .int .i64 k ∧ Hid (TW w1.heap.size av bv k k pre (pre.map (·.kind)) wr) ∧ Hid ((pre ++ (evalL vs own ev (l.drop k)).1, (evalL vs own ev (l.drop k)).2) = FR ∧ Below w1.heap.size w1 wr)) (fun _ _ i _ => l.length - (intOf i).toNat)
  case atStart => exact ⟨0, [], Nat.zero_le _, rfl, rfl, Lib.hid ⟨⟨rfl, .inl ⟨rfl, rfl⟩⟩, ⟨rfl, .inl ⟨rfl, rfl⟩⟩, fun g h => by simp [Value.ownBlock] at h⟩, Lib.hid ⟨by rw [List.drop_zero, HFR.out]; rfl, Below.refl _ _⟩⟩
  case round =>
    obtain ⟨k, pre, hk, hpl, rfl, hrow, hI⟩ := hrel
    have hb := hI.out.2
    obtain ⟨Ar, cr, rfl⟩ := slice_own hrow.out.1
    obtain ⟨Ak, ck, rfl⟩ := slice_own hrow.out.2.1
    have hsz := hb.size
    have x1 : wr.cell? ⟨X, 1, none⟩ = some (.slice Ax l.length cx) := blk_cell (heap_stays hb HX.out) 1
    by_cases hlt : k < l.length
    · have hk' : (k : Int) < (l.length : Int) := by omega
      obtain ⟨b, o, rfl, hea⟩ := HL.out k l[k] (List.getElem?_eq_getElem hlt)
      have hg := Lib.hid (List.getElem?_eq_getElem hlt)
      obtain ⟨a, ha⟩ : ∃ a, a = l[k] := ⟨_, rfl⟩
      rw [← ha] at hg hea
      clear ha
      obtain ⟨d', v', hd', hv', p0, p1, p2, p3, p4, p5, p6, p7⟩ := ex_open (exAt_stays d _ _ _ _ _ (bel_tr HW1.out hb) hea)
      have hna := HNA.out k a hg.out
      have hv2 := hv'
      obtain ⟨A', c', hvv, -⟩ := hv2
      subst hvv
      obtain ⟨⟨fv, fe⟩, hQ⟩ : ∃ r, evalR vs own ev a = r := ⟨_, rfl⟩
      have HC := Lib.hid (fun (W : World) (hW : Below wr.heap.size wr W) => HREC.out d' hd' a _ W (HV.out.stays varAt_stays (bel_tr HW1.out (bel_tr hb hW))) (HU.out.stays vlAt_stays (bel_tr HW1.out (bel_tr hb hW))) (hv'.stays (exAt_stays d') hW) hna)
      rw [hQ] at HC
      have HQ := Lib.hid hQ
      have e0 := cell_stays hb HE.out
      obtain ⟨t0, t1, t2, t3, t4⟩ := blk5 (heap_stays hb HEV.out)
      have h := hI.out.1
      rw [evalL_drop hg.out, HQ.out] at h
      have HH := Lib.hid h
      clear hQ hea hd' hv' hna h
      have mkS : ∀ W, Below wr.heap.size wr W → (fun W => Below wr.heap.size wr W ∧ W.cell? ⟨X, 1, none⟩ = some (.slice (some ⟨b, o, none⟩) l.length cx) ∧ W.cell? ⟨b, o + k * 8, none⟩ = some (.int .i64 a.op) ∧ W.cell? ⟨b, o + k * 8 + 1, none⟩ = some (.slice A' a.args.length c') ∧ W.cell? ⟨b, o + k * 8 + 2, none⟩ = some (.int .i64 a.vr) ∧ W.cell? ⟨b, o + k * 8 + 3, none⟩ = some (.int .i64 a.fl) ∧ W.cell? ⟨b, o + k * 8 + 4, none⟩ = some (.int .i64 a.kd) ∧ W.cell? ⟨b, o + k * 8 + 5, none⟩ = some (.int .i64 a.val.kind) ∧ W.cell? ⟨b, o + k * 8 + 6, none⟩ = some (.int .i64 a.val.num) ∧ W.cell? ⟨b, o + k * 8 + 7, none⟩ = some (.string a.val.text) ∧ W.cell? ⟨X + 1, 0, none⟩ = some (.slice A vs.length c) ∧ W.cell? ⟨X + 1 + 1, 0, none⟩ = some (.int .i64 ev.src) ∧ W.cell? ⟨X + 1 + 1, 1, none⟩ = some (.int .i64 ev.sq) ∧ W.cell? ⟨X + 1 + 1, 2, none⟩ = some (.int .i64 ev.ty) ∧ W.cell? ⟨X + 1 + 1, 3, none⟩ = some (.int .i64 ev.tm) ∧ W.cell? ⟨X + 1 + 1, 4, none⟩ = some (.slice Au ev.vals.length cu)) W := fun W hW => ⟨hW, cell_stays hW x1, cell_stays hW p0, cell_stays hW p1, cell_stays hW p2, cell_stays hW p3, cell_stays hW p4, cell_stays hW p5, cell_stays hW p6, cell_stays hW p7, cell_stays hW e0, cell_stays hW t0, cell_stays hW t1, cell_stays hW t2, cell_stays hW t3, cell_stays hW t4⟩
      go_wp2_with fail
      refine wp_region_noPanic ?_
      refine wp_region_held_drew (S := fun W => Below wr.heap.size wr W ∧ W.cell? ⟨X, 1, none⟩ = some (.slice (some ⟨b, o, none⟩) l.length cx) ∧ W.cell? ⟨b, o + k * 8, none⟩ = some (.int .i64 a.op) ∧ W.cell? ⟨b, o + k * 8 + 1, none⟩ = some (.slice A' a.args.length c') ∧ W.cell? ⟨b, o + k * 8 + 2, none⟩ = some (.int .i64 a.vr) ∧ W.cell? ⟨b, o + k * 8 + 3, none⟩ = some (.int .i64 a.fl) ∧ W.cell? ⟨b, o + k * 8 + 4, none⟩ = some (.int .i64 a.kd) ∧ W.cell? ⟨b, o + k * 8 + 5, none⟩ = some (.int .i64 a.val.kind) ∧ W.cell? ⟨b, o + k * 8 + 6, none⟩ = some (.int .i64 a.val.num) ∧ W.cell? ⟨b, o + k * 8 + 7, none⟩ = some (.string a.val.text) ∧ W.cell? ⟨X + 1, 0, none⟩ = some (.slice A vs.length c) ∧ W.cell? ⟨X + 1 + 1, 0, none⟩ = some (.int .i64 ev.src) ∧ W.cell? ⟨X + 1 + 1, 1, none⟩ = some (.int .i64 ev.sq) ∧ W.cell? ⟨X + 1 + 1, 2, none⟩ = some (.int .i64 ev.ty) ∧ W.cell? ⟨X + 1 + 1, 3, none⟩ = some (.int .i64 ev.tm) ∧ W.cell? ⟨X + 1 + 1, 4, none⟩ = some (.slice Au ev.vals.length cu)) (by kernel_rfl) (mkS _ (Below.refl _ _).drew) (fun hHeld => ?_)
      generalize wr.drew = wD at hHeld ⊢
      focus (refine wpAnyH_take2 (i := 0) (fuel := 14) (L := (true :: false :: false :: false :: false :: false :: false :: false :: false :: false :: false :: false :: false :: false :: false :: []).toArray) (v := ?_) rfl rfl (by kernel_rfl) (by kernel_rfl) (by kernel_rfl) (by kernel_rfl) (fun _ _ _ h => h) (by kernel_rfl) ?_ (by assumption) ?_; rotate_left 1; (focus (intro wS hSw; (try dsimp only at hSw); go_simp <;> with_reducible rfl)); simp only [List.set_cons_zero, List.set_cons_succ])
      focus (refine wpAnyH_take2 (i := 1) (fuel := 13) (L := (true :: true :: false :: false :: false :: false :: false :: false :: false :: false :: false :: false :: false :: false :: false :: []).toArray) (v := ?_) rfl rfl (by kernel_rfl) (by kernel_rfl) (by kernel_rfl) (by kernel_rfl) (fun _ _ _ h => h) (by kernel_rfl) ?_ (by assumption) ?_; rotate_left 1; (focus (intro wS hSw; (try dsimp only at hSw); go_simp <;> with_reducible rfl)); simp only [List.set_cons_zero, List.set_cons_succ])
      focus (refine wpAnyH_take2 (i := 2) (fuel := 12) (L := (true :: true :: true :: false :: false :: false :: false :: false :: false :: false :: false :: false :: false :: false :: false :: []).toArray) (v := ?_) rfl rfl (by kernel_rfl) (by kernel_rfl) (by kernel_rfl) (by kernel_rfl) (fun _ _ _ h => h) (by kernel_rfl) ?_ (by assumption) ?_; rotate_left 1; (focus (intro wS hSw; (try dsimp only at hSw); go_simp <;> with_reducible rfl)); simp only [List.set_cons_zero, List.set_cons_succ])
      focus (refine wpAnyH_take2 (i := 3) (fuel := 11) (L := (true :: true :: true :: true :: false :: false :: false :: false :: false :: false :: false :: false :: false :: false :: false :: []).toArray) (v := ?_) rfl rfl (by kernel_rfl) (by kernel_rfl) (by kernel_rfl) (by kernel_rfl) (fun _ _ _ h => h) (by kernel_rfl) ?_ (by assumption) ?_; rotate_left 1; (focus (intro wS hSw; (try dsimp only at hSw); go_simp <;> with_reducible rfl)); simp only [List.set_cons_zero, List.set_cons_succ])
      focus (refine wpAnyH_take2 (i := 4) (fuel := 10) (L := (true :: true :: true :: true :: true :: false :: false :: false :: false :: false :: false :: false :: false :: false :: false :: []).toArray) (v := ?_) rfl rfl (by kernel_rfl) (by kernel_rfl) (by kernel_rfl) (by kernel_rfl) (fun _ _ _ h => h) (by kernel_rfl) ?_ (by assumption) ?_; rotate_left 1; (focus (intro wS hSw; (try dsimp only at hSw); go_simp <;> with_reducible rfl)); simp only [List.set_cons_zero, List.set_cons_succ])
      focus (refine wpAnyH_take2 (i := 5) (fuel := 9) (L := (true :: true :: true :: true :: true :: true :: false :: false :: false :: false :: false :: false :: false :: false :: false :: []).toArray) (v := ?_) rfl rfl (by kernel_rfl) (by kernel_rfl) (by kernel_rfl) (by kernel_rfl) (fun _ _ _ h => h) (by kernel_rfl) ?_ (by assumption) ?_; rotate_left 1; (focus (intro wS hSw; (try dsimp only at hSw); go_simp <;> with_reducible rfl)); simp only [List.set_cons_zero, List.set_cons_succ])
      focus (refine wpAnyH_take2 (i := 6) (fuel := 8) (L := (true :: true :: true :: true :: true :: true :: true :: false :: false :: false :: false :: false :: false :: false :: false :: []).toArray) (v := ?_) rfl rfl (by kernel_rfl) (by kernel_rfl) (by kernel_rfl) (by kernel_rfl) (fun _ _ _ h => h) (by kernel_rfl) ?_ (by assumption) ?_; rotate_left 1; (focus (intro wS hSw; (try dsimp only at hSw); go_simp <;> with_reducible rfl)); simp only [List.set_cons_zero, List.set_cons_succ])
      focus (refine wpAnyH_take2 (i := 7) (fuel := 7) (L := (true :: true :: true :: true :: true :: true :: true :: true :: false :: false :: false :: false :: false :: false :: false :: []).toArray) (v := ?_) rfl rfl (by kernel_rfl) (by kernel_rfl) (by kernel_rfl) (by kernel_rfl) (fun _ _ _ h => h) (by kernel_rfl) ?_ (by assumption) ?_; rotate_left 1; (focus (intro wS hSw; (try dsimp only at hSw); go_simp <;> with_reducible rfl)); simp only [List.set_cons_zero, List.set_cons_succ])
      refine wpAnyH_ready (rs := [8, 12]) (by kernel_rfl) (by simp) ?_
      refine AllReadyH.cons rfl (fun K hK => ?_) ?_
      focus (go_simp; refine (HC.out _ hHeld.1).mono ?_; rintro e w2 ⟨rfl, hb2⟩; (try have hqA := heap_stays hb2 hqA))
      refine hK.out _ _ (mkS _ (bel_tr hHeld.1 hb2)) (fun hHeld => ?_)
      clear hK K
      try simp only [List.setIfInBounds_toArray, List.set_cons_zero, List.set_cons_succ]
      focus (refine wpAnyH_take2 (i := 9) (fuel := 5) (L := (true :: true :: true :: true :: true :: true :: true :: true :: true :: true :: false :: false :: false :: false :: false :: []).toArray) (v := ?_) rfl rfl (by kernel_rfl) (by kernel_rfl) (by kernel_rfl) (by kernel_rfl) (fun _ _ _ h => h) (by kernel_rfl) ?_ (by assumption) ?_; rotate_left 1; (focus (intro wS hSw; (try dsimp only at hSw); go_simp <;> with_reducible rfl)); simp only [List.set_cons_zero, List.set_cons_succ])
      focus (refine wpAnyH_take2 (i := 10) (fuel := 4) (L := (true :: true :: true :: true :: true :: true :: true :: true :: true :: true :: true :: false :: false :: false :: false :: []).toArray) (v := ?_) rfl rfl (by kernel_rfl) (by kernel_rfl) (by kernel_rfl) (by kernel_rfl) (fun _ _ _ h => h) (by kernel_rfl) ?_ (by assumption) ?_; rotate_left 1; (focus (intro wS hSw; (try dsimp only at hSw); go_simp <;> with_reducible rfl)); simp only [List.set_cons_zero, List.set_cons_succ])
      focus (refine wpAnyH_take2 (i := 11) (fuel := 3) (L := (true :: true :: true :: true :: true :: true :: true :: true :: true :: true :: true :: true :: false :: false :: false :: []).toArray) (v := ?_) rfl rfl (by kernel_rfl) (by kernel_rfl) (by kernel_rfl) (by kernel_rfl) (fun _ _ _ h => h) (by kernel_rfl) ?_ (by assumption) ?_; rotate_left 1; (focus (intro wS hSw; (try dsimp only at hSw); go_simp <;> with_reducible rfl)); simp only [List.set_cons_zero, List.set_cons_succ])
      refine wpAnyH_next (i := 12) (fuel := 2) (L := (true :: true :: true :: true :: true :: true :: true :: true :: true :: true :: true :: true :: true :: false :: false :: []).toArray) rfl (by kernel_rfl) (by kernel_rfl) (by kernel_rfl) (fun K hK => ?_)
      focus (go_simp; refine al_gen5 (K := fun W => K _ W) fun wA hbA hqA => ?_; have hTw : wr.heap.size ≤ _ := hHeld.1.size)
      refine hK.out _ _ (mkS _ (bel_tr hHeld.1 hbA)) (fun hHeld => ?_)
      clear hK K
      refine wpAnyH_next (i := 13) (fuel := 1) (L := (true :: true :: true :: true :: true :: true :: true :: true :: true :: true :: true :: true :: true :: true :: false :: []).toArray) rfl (by kernel_rfl) (by kernel_rfl) (by kernel_rfl) (fun K hK => ?_)
      focus (obtain ⟨a0, b0, c0, z0, z1, z2, f0, f1, f2⟩ := VBox.facts ⟨_, _, _, hqA⟩; go_simp)
      refine hK.out _ _ (mkS _ (bel_3 hHeld.1 hTw _ _ _)) (fun hHeld => ?_)
      clear hK K
      focus (refine wpAnyH_take2 (i := 14) (fuel := 0) (L := (true :: true :: true :: true :: true :: true :: true :: true :: true :: true :: true :: true :: true :: true :: true :: []).toArray) (v := ?_) rfl rfl (by kernel_rfl) (by kernel_rfl) (by kernel_rfl) (by kernel_rfl) (fun _ _ _ h => h) (by kernel_rfl) ?_ (by assumption) ?_; rotate_left 1; (focus (intro wS hSw; (try dsimp only at hSw); go_simp <;> with_reducible rfl)); simp only [List.set_cons_zero, List.set_cons_succ])
      refine wpAnyH_done (by kernel_rfl) (NoPanic.normal ?_) _
      rotate_left 1
      refine AllReadyH.cons rfl (fun K hK => ?_) ?_
      focus (go_simp; refine al_gen5 (K := fun W => K _ W) fun wA hbA hqA => ?_; have hTw : wr.heap.size ≤ _ := hHeld.1.size)
      refine hK.out _ _ (mkS _ (bel_tr hHeld.1 hbA)) (fun hHeld => ?_)
      clear hK K
      try simp only [List.setIfInBounds_toArray, List.set_cons_zero, List.set_cons_succ]
      refine wpAnyH_next (i := 8) (fuel := 5) (L := (true :: true :: true :: true :: true :: true :: true :: true :: true :: false :: false :: false :: true :: false :: false :: []).toArray) rfl (by kernel_rfl) (by kernel_rfl) (by kernel_rfl) (fun K hK => ?_)
      focus (go_simp; refine (HC.out _ hHeld.1).mono ?_; rintro e w2 ⟨rfl, hb2⟩; (try have hqA := heap_stays hb2 hqA))
      refine hK.out _ _ (mkS _ (bel_tr hHeld.1 hb2)) (fun hHeld => ?_)
      clear hK K
      focus (refine wpAnyH_take2 (i := 9) (fuel := 4) (L := (true :: true :: true :: true :: true :: true :: true :: true :: true :: true :: false :: false :: true :: false :: false :: []).toArray) (v := ?_) rfl rfl (by kernel_rfl) (by kernel_rfl) (by kernel_rfl) (by kernel_rfl) (fun _ _ _ h => h) (by kernel_rfl) ?_ (by assumption) ?_; rotate_left 1; (focus (intro wS hSw; (try dsimp only at hSw); go_simp <;> with_reducible rfl)); simp only [List.set_cons_zero, List.set_cons_succ])
      focus (refine wpAnyH_take2 (i := 10) (fuel := 3) (L := (true :: true :: true :: true :: true :: true :: true :: true :: true :: true :: true :: false :: true :: false :: false :: []).toArray) (v := ?_) rfl rfl (by kernel_rfl) (by kernel_rfl) (by kernel_rfl) (by kernel_rfl) (fun _ _ _ h => h) (by kernel_rfl) ?_ (by assumption) ?_; rotate_left 1; (focus (intro wS hSw; (try dsimp only at hSw); go_simp <;> with_reducible rfl)); simp only [List.set_cons_zero, List.set_cons_succ])
      focus (refine wpAnyH_take2 (i := 11) (fuel := 2) (L := (true :: true :: true :: true :: true :: true :: true :: true :: true :: true :: true :: true :: true :: false :: false :: []).toArray) (v := ?_) rfl rfl (by kernel_rfl) (by kernel_rfl) (by kernel_rfl) (by kernel_rfl) (fun _ _ _ h => h) (by kernel_rfl) ?_ (by assumption) ?_; rotate_left 1; (focus (intro wS hSw; (try dsimp only at hSw); go_simp <;> with_reducible rfl)); simp only [List.set_cons_zero, List.set_cons_succ])
      refine wpAnyH_next (i := 13) (fuel := 1) (L := (true :: true :: true :: true :: true :: true :: true :: true :: true :: true :: true :: true :: true :: true :: false :: []).toArray) rfl (by kernel_rfl) (by kernel_rfl) (by kernel_rfl) (fun K hK => ?_)
      focus (obtain ⟨a0, b0, c0, z0, z1, z2, f0, f1, f2⟩ := VBox.facts ⟨_, _, _, hqA⟩; go_simp)
      refine hK.out _ _ (mkS _ (bel_3 hHeld.1 hTw _ _ _)) (fun hHeld => ?_)
      clear hK K
      focus (refine wpAnyH_take2 (i := 14) (fuel := 0) (L := (true :: true :: true :: true :: true :: true :: true :: true :: true :: true :: true :: true :: true :: true :: true :: []).toArray) (v := ?_) rfl rfl (by kernel_rfl) (by kernel_rfl) (by kernel_rfl) (by kernel_rfl) (fun _ _ _ h => h) (by kernel_rfl) ?_ (by assumption) ?_; rotate_left 1; (focus (intro wS hSw; (try dsimp only at hSw); go_simp <;> with_reducible rfl)); simp only [List.set_cons_zero, List.set_cons_succ])
      refine wpAnyH_done (by kernel_rfl) (NoPanic.normal ?_) _
      rotate_left 1
      exact AllReadyH.nil
      all_goals
        have hb8 := hHeld.1
        have hqT := three_set hqA (.int .i64 fv.kind) (.int .i64 fv.num) (.string fv.text)
        clear hHeld hqA
        clear z0 z1 z2 f0 f1 f2 a0 b0 c0 x1 e0 t0 t1 t2 t3 t4 p0 p1 p2 p3 p4 p5 p6 p7 mkS
        generalize World.setCell _ _ _ = w5 at hqT hb8 ⊢
        first
          | (obtain ⟨T, hTe⟩ : ∃ T, T = wD.heap.size := ⟨_, rfl⟩
             rw [← hTe] at hqT
             rw [← hTe] at hTw ⊢
             clear hTe)
          | (obtain ⟨T, hTe⟩ : ∃ T, T = w2.heap.size := ⟨_, rfl⟩
             rw [← hTe] at hqT
             rw [← hTe] at hTw ⊢
             clear hTe)
        have HB5r := Lib.hid hb8
        have HB5 := Lib.hid (bel_tr hb hb8)
        have q0 : w5.cell? ⟨T, 0, none⟩ = some (.int .i64 fv.kind) := blk_cell hqT 0
        have q1 : w5.cell? ⟨T, 1, none⟩ = some (.int .i64 fv.num) := blk_cell hqT 1
        have q2 : w5.cell? ⟨T, 2, none⟩ = some (.string fv.text) := blk_cell hqT 2
        clear hqT hb8
        have h := HH.out
        by_cases hz : fe = 0
        case neg =>
          rw [if_pos hz] at h
          obtain ⟨e1, e2⟩ : zeroVl = RV ∧ fe = re := by
            have h2 := HR.out
            rw [← h, nodeR, if_pos hz] at h2
            injection h2 with e1 e2
            exact ⟨e1, e2⟩
          subst e1 e2
          obtain ⟨a0, b0, c0, z0, z1, z2, f0, f1, f2⟩ := (HB.out.stays HB5.out).facts
          have hz' : (fe != 0) = true := by simpa using hz
          clear h hz HH q0 q1 q2
          go_wp2_with fail
          exact bodyPost_ret (v := .tuple #[.agg #[.int .i64 0, .int .i64 0, .string ⟨#[]⟩], .int .i64 fe]) (by simp [results, Tryz.results116, go_sem, cell_set_self, z0, z1, z2]) rfl ⟨rfl, bel_3 (bel_tr HW1.out HB5.out) (by omega) _ _ _⟩
        subst hz
        rw [if_neg (by simp)] at h
        clear HH
        have HH := Lib.hid h
        clear h
        go_wp2_with fail
        have hTW := (hrow.out.below HB5r.out).below (Below.refl _ _).drew
        have hqT : ∀ g, (Value.slice Ar k cr).ownBlock = some g → g ≠ T := fun g hg => by have := (ownsRow_lt hrow.out.1 hg).2; omega
        have hqU : ∀ g, (Value.slice Ak k ck).ownBlock = some g → g ≠ T := fun g hg => by have := (ownsRow_lt hrow.out.2.1 hg).2; omega
        obtain ⟨av, hAV⟩ : ∃ av, av = Value.slice Ar k cr := ⟨_, rfl⟩
        obtain ⟨bv, hBV⟩ : ∃ bv, bv = Value.slice Ak k ck := ⟨_, rfl⟩
        rw [← hAV] at hTW hqT ⊢
        rw [← hBV] at hTW hqU ⊢
        have hks : k ≤ 2 := by omega
        clear hAV hBV
        refine wp_region_noPanic ?_
        refine wp_region_held_drew (S := fun W => Below w1.heap.size w1 W ∧ W.cell? ⟨T, 0, none⟩ = some (.int .i64 fv.kind) ∧ W.cell? ⟨T, 1, none⟩ = some (.int .i64 fv.num) ∧ W.cell? ⟨T, 2, none⟩ = some (.string fv.text)) (by kernel_rfl) (⟨(HB5.out).drew, q0, q1, q2⟩) (fun hHeld => ?_)
        generalize w5.drew = wD at hHeld hTW ⊢
        focus (refine wpAnyH_take2 (i := 0) (fuel := 10) (L := (true :: false :: false :: false :: false :: false :: false :: false :: false :: false :: false :: []).toArray) (v := ?_) rfl rfl (by kernel_rfl) (by kernel_rfl) (by kernel_rfl) (by kernel_rfl) (fun _ _ _ h => h) (by kernel_rfl) ?_ (by assumption) ?_; rotate_left 1; (focus (intro wS hSw; (try dsimp only at hSw); go_simp <;> with_reducible rfl)); simp only [List.set_cons_zero, List.set_cons_succ])
        focus (refine wpAnyH_take2 (i := 1) (fuel := 9) (L := (true :: true :: false :: false :: false :: false :: false :: false :: false :: false :: false :: []).toArray) (v := ?_) rfl rfl (by kernel_rfl) (by kernel_rfl) (by kernel_rfl) (by kernel_rfl) (fun _ _ _ h => h) (by kernel_rfl) ?_ (by assumption) ?_; rotate_left 1; (focus (intro wS hSw; (try dsimp only at hSw); go_simp <;> with_reducible rfl)); simp only [List.set_cons_zero, List.set_cons_succ])
        focus (refine wpAnyH_take2 (i := 4) (fuel := 8) (L := (true :: true :: false :: false :: true :: false :: false :: false :: false :: false :: false :: []).toArray) (v := ?_) rfl rfl (by kernel_rfl) (by kernel_rfl) (by kernel_rfl) (by kernel_rfl) (fun _ _ _ h => h) (by kernel_rfl) ?_ (by assumption) ?_; rotate_left 1; (focus (intro wS hSw; (try dsimp only at hSw); go_simp <;> with_reducible rfl)); simp only [List.set_cons_zero, List.set_cons_succ])
        focus (refine wpAnyH_take2 (i := 5) (fuel := 7) (L := (true :: true :: false :: false :: true :: true :: false :: false :: false :: false :: false :: []).toArray) (v := ?_) rfl rfl (by kernel_rfl) (by kernel_rfl) (by kernel_rfl) (by kernel_rfl) (fun _ _ _ h => h) (by kernel_rfl) ?_ (by assumption) ?_; rotate_left 1; (focus (intro wS hSw; (try dsimp only at hSw); go_simp <;> with_reducible rfl)); simp only [List.set_cons_zero, List.set_cons_succ])
        focus (refine wpAnyH_take2 (i := 6) (fuel := 6) (L := (true :: true :: false :: false :: true :: true :: true :: false :: false :: false :: false :: []).toArray) (v := ?_) rfl rfl (by kernel_rfl) (by kernel_rfl) (by kernel_rfl) (by kernel_rfl) (fun _ _ _ h => h) (by kernel_rfl) ?_ (by assumption) ?_; rotate_left 1; (focus (intro wS hSw; (try dsimp only at hSw); go_simp <;> with_reducible rfl)); simp only [List.set_cons_zero, List.set_cons_succ])
        refine wpAnyH_ready (rs := [2, 7]) (by kernel_rfl) (by simp) ?_
        refine AllReadyH.cons rfl (fun K hK => ?_) ?_
        focus (go_simp; refine al_src (K := fun W => K _ W) (cs := [.int .i64 fv.kind, .int .i64 fv.num, .string fv.text]) (n := 1) (sz := 3) rfl (by intro u hu; simp only [List.mem_cons, List.not_mem_nil, or_false] at hu; rcases hu with rfl | rfl | rfl <;> rfl) fun wA hbA hsA => ?_; have hTW := hTW.below hbA; (try have hsB := hsB.stays hbA))
        refine hK.out _ _ (⟨bel_tr hHeld.1 hbA, cell_stays hbA hHeld.2.1, cell_stays hbA hHeld.2.2.1, cell_stays hbA hHeld.2.2.2⟩) (fun hHeld => ?_)
        clear hK K
        try simp only [List.setIfInBounds_toArray, List.set_cons_zero, List.set_cons_succ]
        refine wpAnyH_ready (rs := [3, 7]) (by kernel_rfl) (by simp) ?_
        refine AllReadyH.cons rfl (fun K hK => ?_) ?_
        focus (have hR6 := hTW.1; refine at_app _ (.tmp 50) (.tmp 52) 69 (by rfl) w1.heap.size 88 i0 _ 3 32 Tryz.underlying69 hi hz0 hz1 hz2 rfl (by decide) av k (vlCells pre) (by rfl) hTW.1 _ 1 1 _ (by rfl) hsA (by unfold maxLen; omega) (by omega) (hHeld.1.size) ?_; intro v8 w8 hown8 hg8 hloc8; (try have hsB := src_grown hg8 hsB (fun e => hqB _ e rfl)); have hTW := hTW.app6 hown8 hg8 hloc8)
        refine hK.out _ _ (⟨hHeld.1.trans (grown_below hg8 hHeld.1.size (fun g h => (ownsRow_lt hR6 h).1)), cell_grown hg8 hHeld.2.1 (fun e => hqT _ e rfl), cell_grown hg8 hHeld.2.2.1 (fun e => hqT _ e rfl), cell_grown hg8 hHeld.2.2.2 (fun e => hqT _ e rfl)⟩) (fun hHeld => ?_)
        clear hK K
        try simp only [Act.put, List.setIfInBounds_toArray, List.set_cons_zero, List.set_cons_succ]
        refine wpAnyH_next (i := 7) (fuel := 3) (L := (true :: true :: true :: true :: true :: true :: true :: true :: false :: false :: false :: []).toArray) rfl (by kernel_rfl) (by kernel_rfl) (by kernel_rfl) (fun K hK => ?_)
        focus (go_simp; (try have hqB : ∀ g, av.ownBlock = some g → g ≠ _ := fun g hg => Nat.ne_of_lt (ownsRow_lt hTW.1 hg).2); refine al_src (K := fun W => K _ W) (cs := [.int .i64 fv.kind]) (n := 1) (sz := 1) rfl (by intro u hu; simp only [List.mem_cons, List.not_mem_nil, or_false] at hu; subst hu; rfl) fun wB hbB hsB => ?_; have hTW := hTW.below hbB; (try have hsA := hsA.stays hbB))
        refine hK.out _ _ (⟨bel_tr hHeld.1 hbB, cell_stays hbB hHeld.2.1, cell_stays hbB hHeld.2.2.1, cell_stays hbB hHeld.2.2.2⟩) (fun hHeld => ?_)
        clear hK K
        refine wpAnyH_next (i := 8) (fuel := 2) (L := (true :: true :: true :: true :: true :: true :: true :: true :: true :: false :: false :: []).toArray) rfl (by kernel_rfl) (by kernel_rfl) (by kernel_rfl) (fun K hK => ?_)
        focus (have hR7 := hTW.2.1; refine at_app _ (.tmp 54) (.tmp 57) 84 (by rfl) w1.heap.size 3 i1 _ 1 8 Tryz.underlying84 hi1 hy0 hy1 hy2 rfl (by decide) bv k (inCells (pre.map (·.kind))) (by rfl) hTW.2.1 _ 1 1 _ (by rfl) hsB (by unfold maxLen; omega) (by omega) (hHeld.1.size) ?_; intro v9 w9 hown9 hg9 hloc9; have hTW' := hTW.app7 hown9 hg9 hloc9)
        refine hK.out _ _ (⟨hHeld.1.trans (grown_below hg9 hHeld.1.size (fun g h => (ownsRow_lt hR7 h).1)), cell_grown hg9 hHeld.2.1 (fun e => hqU _ e rfl), cell_grown hg9 hHeld.2.2.1 (fun e => hqU _ e rfl), cell_grown hg9 hHeld.2.2.2 (fun e => hqU _ e rfl)⟩) (fun hHeld => ?_)
        clear hK K
        focus (refine wpAnyH_take2 (i := 9) (fuel := 1) (L := (true :: true :: true :: true :: true :: true :: true :: true :: true :: true :: false :: []).toArray) (v := ?_) rfl rfl (by kernel_rfl) (by kernel_rfl) (by kernel_rfl) (by kernel_rfl) (fun _ _ _ h => h) (by kernel_rfl) ?_ (by assumption) ?_; rotate_left 1; (focus (intro wS hSw; (try dsimp only at hSw); go_simp <;> with_reducible rfl)); simp only [List.set_cons_zero, List.set_cons_succ])
        focus (refine wpAnyH_take2 (i := 10) (fuel := 0) (L := (true :: true :: true :: true :: true :: true :: true :: true :: true :: true :: true :: []).toArray) (v := ?_) rfl rfl (by kernel_rfl) (by kernel_rfl) (by kernel_rfl) (by kernel_rfl) (fun _ _ _ h => h) (by kernel_rfl) ?_ (by assumption) ?_; rotate_left 1; (focus (intro wS hSw; (try dsimp only at hSw); go_simp <;> with_reducible rfl)); simp only [List.set_cons_zero, List.set_cons_succ])
        refine wpAnyH_done (by kernel_rfl) (NoPanic.normal ?_) _
        rotate_left 1
        refine AllReadyH.cons rfl (fun K hK => ?_) ?_
        focus (go_simp; (try have hqB : ∀ g, av.ownBlock = some g → g ≠ _ := fun g hg => Nat.ne_of_lt (ownsRow_lt hTW.1 hg).2); refine al_src (K := fun W => K _ W) (cs := [.int .i64 fv.kind]) (n := 1) (sz := 1) rfl (by intro u hu; simp only [List.mem_cons, List.not_mem_nil, or_false] at hu; subst hu; rfl) fun wB hbB hsB => ?_; have hTW := hTW.below hbB; (try have hsA := hsA.stays hbB))
        refine hK.out _ _ (⟨bel_tr hHeld.1 hbB, cell_stays hbB hHeld.2.1, cell_stays hbB hHeld.2.2.1, cell_stays hbB hHeld.2.2.2⟩) (fun hHeld => ?_)
        clear hK K
        try simp only [List.setIfInBounds_toArray, List.set_cons_zero, List.set_cons_succ]
        refine wpAnyH_next (i := 3) (fuel := 3) (L := (true :: true :: true :: true :: true :: true :: true :: true :: false :: false :: false :: []).toArray) rfl (by kernel_rfl) (by kernel_rfl) (by kernel_rfl) (fun K hK => ?_)
        focus (have hR6 := hTW.1; refine at_app _ (.tmp 50) (.tmp 52) 69 (by rfl) w1.heap.size 88 i0 _ 3 32 Tryz.underlying69 hi hz0 hz1 hz2 rfl (by decide) av k (vlCells pre) (by rfl) hTW.1 _ 1 1 _ (by rfl) hsA (by unfold maxLen; omega) (by omega) (hHeld.1.size) ?_; intro v8 w8 hown8 hg8 hloc8; (try have hsB := src_grown hg8 hsB (fun e => hqB _ e rfl)); have hTW := hTW.app6 hown8 hg8 hloc8)
        refine hK.out _ _ (⟨hHeld.1.trans (grown_below hg8 hHeld.1.size (fun g h => (ownsRow_lt hR6 h).1)), cell_grown hg8 hHeld.2.1 (fun e => hqT _ e rfl), cell_grown hg8 hHeld.2.2.1 (fun e => hqT _ e rfl), cell_grown hg8 hHeld.2.2.2 (fun e => hqT _ e rfl)⟩) (fun hHeld => ?_)
        clear hK K
        refine wpAnyH_next (i := 8) (fuel := 2) (L := (true :: true :: true :: true :: true :: true :: true :: true :: true :: false :: false :: []).toArray) rfl (by kernel_rfl) (by kernel_rfl) (by kernel_rfl) (fun K hK => ?_)
        focus (have hR7 := hTW.2.1; refine at_app _ (.tmp 54) (.tmp 57) 84 (by rfl) w1.heap.size 3 i1 _ 1 8 Tryz.underlying84 hi1 hy0 hy1 hy2 rfl (by decide) bv k (inCells (pre.map (·.kind))) (by rfl) hTW.2.1 _ 1 1 _ (by rfl) hsB (by unfold maxLen; omega) (by omega) (hHeld.1.size) ?_; intro v9 w9 hown9 hg9 hloc9; have hTW' := hTW.app7 hown9 hg9 hloc9)
        refine hK.out _ _ (⟨hHeld.1.trans (grown_below hg9 hHeld.1.size (fun g h => (ownsRow_lt hR7 h).1)), cell_grown hg9 hHeld.2.1 (fun e => hqU _ e rfl), cell_grown hg9 hHeld.2.2.1 (fun e => hqU _ e rfl), cell_grown hg9 hHeld.2.2.2 (fun e => hqU _ e rfl)⟩) (fun hHeld => ?_)
        clear hK K
        focus (refine wpAnyH_take2 (i := 9) (fuel := 1) (L := (true :: true :: true :: true :: true :: true :: true :: true :: true :: true :: false :: []).toArray) (v := ?_) rfl rfl (by kernel_rfl) (by kernel_rfl) (by kernel_rfl) (by kernel_rfl) (fun _ _ _ h => h) (by kernel_rfl) ?_ (by assumption) ?_; rotate_left 1; (focus (intro wS hSw; (try dsimp only at hSw); go_simp <;> with_reducible rfl)); simp only [List.set_cons_zero, List.set_cons_succ])
        focus (refine wpAnyH_take2 (i := 10) (fuel := 0) (L := (true :: true :: true :: true :: true :: true :: true :: true :: true :: true :: true :: []).toArray) (v := ?_) rfl rfl (by kernel_rfl) (by kernel_rfl) (by kernel_rfl) (by kernel_rfl) (fun _ _ _ h => h) (by kernel_rfl) ?_ (by assumption) ?_; rotate_left 1; (focus (intro wS hSw; (try dsimp only at hSw); go_simp <;> with_reducible rfl)); simp only [List.set_cons_zero, List.set_cons_succ])
        refine wpAnyH_done (by kernel_rfl) (NoPanic.normal ?_) _
        rotate_left 1
        exact AllReadyH.nil
        refine AllReadyH.cons rfl (fun K hK => ?_) ?_
        focus (go_simp; (try have hqB : ∀ g, av.ownBlock = some g → g ≠ _ := fun g hg => Nat.ne_of_lt (ownsRow_lt hTW.1 hg).2); refine al_src (K := fun W => K _ W) (cs := [.int .i64 fv.kind]) (n := 1) (sz := 1) rfl (by intro u hu; simp only [List.mem_cons, List.not_mem_nil, or_false] at hu; subst hu; rfl) fun wB hbB hsB => ?_; have hTW := hTW.below hbB; (try have hsA := hsA.stays hbB))
        refine hK.out _ _ (⟨bel_tr hHeld.1 hbB, cell_stays hbB hHeld.2.1, cell_stays hbB hHeld.2.2.1, cell_stays hbB hHeld.2.2.2⟩) (fun hHeld => ?_)
        clear hK K
        try simp only [List.setIfInBounds_toArray, List.set_cons_zero, List.set_cons_succ]
        refine wpAnyH_next (i := 2) (fuel := 4) (L := (true :: true :: true :: false :: true :: true :: true :: true :: false :: false :: false :: []).toArray) rfl (by kernel_rfl) (by kernel_rfl) (by kernel_rfl) (fun K hK => ?_)
        focus (go_simp; refine al_src (K := fun W => K _ W) (cs := [.int .i64 fv.kind, .int .i64 fv.num, .string fv.text]) (n := 1) (sz := 3) rfl (by intro u hu; simp only [List.mem_cons, List.not_mem_nil, or_false] at hu; rcases hu with rfl | rfl | rfl <;> rfl) fun wA hbA hsA => ?_; have hTW := hTW.below hbA; (try have hsB := hsB.stays hbA))
        refine hK.out _ _ (⟨bel_tr hHeld.1 hbA, cell_stays hbA hHeld.2.1, cell_stays hbA hHeld.2.2.1, cell_stays hbA hHeld.2.2.2⟩) (fun hHeld => ?_)
        clear hK K
        refine wpAnyH_next (i := 3) (fuel := 3) (L := (true :: true :: true :: true :: true :: true :: true :: true :: false :: false :: false :: []).toArray) rfl (by kernel_rfl) (by kernel_rfl) (by kernel_rfl) (fun K hK => ?_)
        focus (have hR6 := hTW.1; refine at_app _ (.tmp 50) (.tmp 52) 69 (by rfl) w1.heap.size 88 i0 _ 3 32 Tryz.underlying69 hi hz0 hz1 hz2 rfl (by decide) av k (vlCells pre) (by rfl) hTW.1 _ 1 1 _ (by rfl) hsA (by unfold maxLen; omega) (by omega) (hHeld.1.size) ?_; intro v8 w8 hown8 hg8 hloc8; (try have hsB := src_grown hg8 hsB (fun e => hqB _ e rfl)); have hTW := hTW.app6 hown8 hg8 hloc8)
        refine hK.out _ _ (⟨hHeld.1.trans (grown_below hg8 hHeld.1.size (fun g h => (ownsRow_lt hR6 h).1)), cell_grown hg8 hHeld.2.1 (fun e => hqT _ e rfl), cell_grown hg8 hHeld.2.2.1 (fun e => hqT _ e rfl), cell_grown hg8 hHeld.2.2.2 (fun e => hqT _ e rfl)⟩) (fun hHeld => ?_)
        clear hK K
        refine wpAnyH_next (i := 8) (fuel := 2) (L := (true :: true :: true :: true :: true :: true :: true :: true :: true :: false :: false :: []).toArray) rfl (by kernel_rfl) (by kernel_rfl) (by kernel_rfl) (fun K hK => ?_)
        focus (have hR7 := hTW.2.1; refine at_app _ (.tmp 54) (.tmp 57) 84 (by rfl) w1.heap.size 3 i1 _ 1 8 Tryz.underlying84 hi1 hy0 hy1 hy2 rfl (by decide) bv k (inCells (pre.map (·.kind))) (by rfl) hTW.2.1 _ 1 1 _ (by rfl) hsB (by unfold maxLen; omega) (by omega) (hHeld.1.size) ?_; intro v9 w9 hown9 hg9 hloc9; have hTW' := hTW.app7 hown9 hg9 hloc9)
        refine hK.out _ _ (⟨hHeld.1.trans (grown_below hg9 hHeld.1.size (fun g h => (ownsRow_lt hR7 h).1)), cell_grown hg9 hHeld.2.1 (fun e => hqU _ e rfl), cell_grown hg9 hHeld.2.2.1 (fun e => hqU _ e rfl), cell_grown hg9 hHeld.2.2.2 (fun e => hqU _ e rfl)⟩) (fun hHeld => ?_)
        clear hK K
        focus (refine wpAnyH_take2 (i := 9) (fuel := 1) (L := (true :: true :: true :: true :: true :: true :: true :: true :: true :: true :: false :: []).toArray) (v := ?_) rfl rfl (by kernel_rfl) (by kernel_rfl) (by kernel_rfl) (by kernel_rfl) (fun _ _ _ h => h) (by kernel_rfl) ?_ (by assumption) ?_; rotate_left 1; (focus (intro wS hSw; (try dsimp only at hSw); go_simp <;> with_reducible rfl)); simp only [List.set_cons_zero, List.set_cons_succ])
        focus (refine wpAnyH_take2 (i := 10) (fuel := 0) (L := (true :: true :: true :: true :: true :: true :: true :: true :: true :: true :: true :: []).toArray) (v := ?_) rfl rfl (by kernel_rfl) (by kernel_rfl) (by kernel_rfl) (by kernel_rfl) (fun _ _ _ h => h) (by kernel_rfl) ?_ (by assumption) ?_; rotate_left 1; (focus (intro wS hSw; (try dsimp only at hSw); go_simp <;> with_reducible rfl)); simp only [List.set_cons_zero, List.set_cons_succ])
        refine wpAnyH_done (by kernel_rfl) (NoPanic.normal ?_) _
        rotate_left 1
        exact AllReadyH.nil
        all_goals
          have hb9 : Below w1.heap.size w1 w9 := hHeld.1
          go_wp2_with fail
          refine ⟨⟨k + 1, pre ++ [fv], by omega, by simp [hpl], by go_num, Lib.hid (by rw [List.map_append]; exact hTW'), Lib.hid ⟨?_, hb9⟩⟩, by simp [intOf]; omega⟩
          have h := HH.out
          rw [List.append_assoc]
          exact h
    · have hk' : ¬ (k : Int) < (l.length : Int) := by omega
      have hkl : k = l.length := by omega
      have HIN := Lib.hid (inRow_is (l := pre.map (·.kind)) (by rw [List.length_map, hpl]; exact hrow.out.2.1))
      have HVL := Lib.hid (vlRow_is (l := pre) (by rw [hpl]; exact hrow.out.1))
      have HOP := Lib.hid (fun W (hW : Below wr.heap.size wr W) => roperands_any op (pre.map (·.kind)) _ W (HIN.out.stays inAt_stays hW))
      have hFR : FR = (pre, 0) := by
        have h := hI.out.1
        rw [List.drop_of_length_le (by omega), evalL, List.append_nil] at h
        exact h.symm
      have hND := HR.out
      rw [hFR, nodeR_pre] at hND
      obtain ⟨oe, hoe⟩ : ∃ e, opE op (pre.map (·.kind)) = e := ⟨_, rfl⟩
      rw [hoe] at HOP hND
      have HND := Lib.hid hND
      obtain ⟨rv, hrv⟩ : ∃ r, applyR op (pre.headD zeroVl) (pre.getLastD zeroVl) = r := ⟨_, rfl⟩
      have HAP : Hid (∀ W, Below wr.heap.size wr W → Calls Tryz.prog 157 #[.int .i64 op, .slice Ar k cr] W fun e w' => e = .returned (.agg #[.int .i64 rv.kind, .int .i64 rv.num, .string rv.text]) ∧ Below W.heap.size W w') := Lib.hid (fun W hW => by
        have hv := HVL.out.stays vlAt_stays hW
        have hlen := HAR.out
        by_cases h12 : op = 12
        · subst h12
          rw [if_pos rfl] at hlen
          have hp1 : pre.length = 1 := by omega
          match pre, hp1, hv, hrv with
          | [a], _, hv, hrv =>
            have h := rapply_one a _ W hv
            have e : applyR 12 a a = rv := hrv
            rw [e] at h
            exact h
        · rw [if_neg h12] at hlen
          have hp2 : pre.length = 2 := by omega
          match pre, hp2, hv, hrv with
          | [a, b], _, hv, hrv =>
            have h := rapply_two op a b _ W hv ⟨n5, by omega⟩
            have e : applyR op a b = rv := hrv
            rw [e] at h
            exact h)
      obtain ⟨q0, q1, q2, q3, q4, q5, q6, q7⟩ := blk8 (heap_stays hb HX.out)
      rw [hrv] at HND
      clear hFR hND hoe hkl hrv
      go_wp2_with fail
      refine (HOP.out _ (Below.refl _ _)).mono ?_
      rintro e w3 ⟨rfl, hb3⟩
      have HB3 := Lib.hid (bel_tr hb hb3)
      have HB3r := Lib.hid hb3
      obtain ⟨q0, q1, q2, q3, q4, q5, q6, q7⟩ := blk8 (heap_stays HB3.out HX.out)
      obtain ⟨a0, b0, c0, z0, z1, z2, f0, f1, f2⟩ := (HB.out.stays HB3.out).facts
      have h := HND.out
      by_cases hz : oe = 0
      case neg =>
        rw [if_pos hz] at h
        injection h with e1 e2
        subst e1 e2
        have hz' : (oe != 0) = true := by simpa using hz
        clear hz
        go_wp2_with fail
        exact bodyPost_ret (v := .tuple #[.agg #[.int .i64 0, .int .i64 0, .string ⟨#[]⟩], .int .i64 oe]) (by simp [results, Tryz.results116, go_sem, cell_set_self, z0, z1, z2]) rfl ⟨rfl, bel_3 (bel_tr HW1.out HB3.out) (by omega) _ _ _⟩
      subst hz
      rw [if_neg (by simp)] at h
      injection h with e1 e2
      subst e1 e2
      clear z0 z1 z2 f0 f1 f2 a0 b0 c0 hb3
      go_wp2_with fail
      refine (HAP.out _ HB3r.out).mono ?_
      rintro e w4 ⟨rfl, hb4⟩
      have HB4 := Lib.hid (bel_tr HB3.out hb4)
      obtain ⟨a0, b0, c0, z0, z1, z2, f0, f1, f2⟩ := (HB.out.stays HB4.out).facts
      go_wp2_with fail
      exact bodyPost_ret (v := .tuple #[.agg #[.int .i64 rv.kind, .int .i64 rv.num, .string rv.text], .int .i64 0]) (by simp [results, Tryz.results116, go_sem, cell_set_self, z0, z1, z2]) rfl ⟨rfl, bel_3 (bel_tr HW1.out HB4.out) (by omega) _ _ _⟩
theorem reval_any (vs : List (List Evt)) (v : Value) (own : Int) (ev : Evt) (u : Value) (hsm : ∀ k, (evsAt vs k).length ≤ 1048576) (d : Nat) : ∀ (x : Ex) (vx : Value) (w : World), IsVars w v vs → IsVls w u ev.vals → IsExs d w vx x.args → nodesE x = 0 →
    Calls Tryz.prog 116 #[exV x vx, .agg #[v], .int .i64 own, evtV ev u] w fun e w' => e = .returned (.tuple #[vlV (evalR vs own ev x).1, .int .i64 (evalR vs own ev x).2]) ∧ Below w.heap.size w w' := by
  induction d with
  | zero => exact reval_step 0 vs v own ev u hsm (fun d' h => by omega)
  | succ d ih => exact reval_step (d + 1) vs v own ev u hsm (fun d' h => Nat.succ.inj h ▸ ih)
end Go.Proofs.YtclpglgigpjfoaaGreatDoor
namespace Go.Proofs.YtclpglgigpjfoaaGreatDoor
open Go.RowKit

set_option maxRecDepth 100000 in
set_option maxHeartbeats 8000000 in
theorem revalp_any (d : Nat) (vs : List (List Evt)) (v : Value) (own : Int) (ev : Evt) (u : Value) (hsm : ∀ k, (evsAt vs k).length ≤ 1048576)
    (x : Ex) (vx : Value) (w : World) (hv : IsVars w v vs) (hu : IsVls w u ev.vals) (hx : IsExs d w vx x.args) (hN : nodesN x ≤ 1048576) :
    Calls Tryz.prog 81 #[exV x vx, .agg #[v], .int .i64 own, evtV ev u] w fun e w' => e = .returned (.tuple #[vlV (evalE vs own ev x).1, .int .i64 (evalE vs own ev x).2]) ∧ Below w.heap.size w w' := by
  have HCK := Lib.hid (fun W (hW : Below w.heap.size w W) => rcheck_any d x vx W (hx.stays (exAt_stays d) hW) hN)
  have HEV := Lib.hid (fun W (hW : Below w.heap.size w W) (hn : nodesE x = 0) => reval_any vs v own ev u hsm d x vx W (hv.stays varAt_stays hW) (hu.stays vlAt_stays hW) (hx.stays (exAt_stays d) hW) hn)
  obtain ⟨⟨RV, re⟩, hR⟩ : ∃ r, evalE vs own ev x = r := ⟨_, rfl⟩
  obtain ⟨ce, hce⟩ : ∃ c, chkE x = c := ⟨_, rfl⟩
  obtain ⟨⟨QV, qe⟩, hQ⟩ : ∃ r, evalR vs own ev x = r := ⟨_, rfl⟩
  have HR : Hid ((if ce ≠ 0 then (zeroVl, ce) else (QV, qe)) = (RV, re)) := Lib.hid (by rw [← hR, ← hce, ← hQ]; rfl)
  have HN : Hid (ce = 0 → nodesE x = 0) := Lib.hid (fun h => chk_nodes (hce.trans h))
  rw [hR]
  rw [hce] at HCK
  rw [hQ] at HEV
  clear hR hce hQ hsm
  obtain ⟨op, l, vr, fl, kd, vl⟩ := x
  obtain ⟨A, c, rfl, -⟩ := hv
  obtain ⟨Au, cu, rfl, -⟩ := hu
  obtain ⟨Ax, cx, rfl, -⟩ := hx
  unfold exV evtV at *
  simp only [Ex.op, Ex.args, Ex.vr, Ex.fl, Ex.kd, Ex.val] at *
  unfold vlV at *
  clear hN
  go_enter Tryz.func81, Tryz.ntmps81
  go_wp2_with fail
  refine calls_gen fun W9 e9 => ?_
  have hX : W9.heap[w.heap.size]? = some (.cells [.int .i64 op, .slice Ax l.length cx, .int .i64 vr, .int .i64 fl, .int .i64 kd, .int .i64 vl.kind, .int .i64 vl.num, .string vl.text].toArray 90 (0, 0)) := by
    rw [e9]; repeat (first | exact heap_new' _ _ _ (by simp) | apply heap_old)
  have hE : W9.heap[w.heap.size + 1]? = some (.cells [.slice A vs.length c].toArray 46 (0, 0)) := by
    rw [e9]; repeat (first | exact heap_new' _ _ _ (by simp) | apply heap_old)
  have hV : W9.heap[w.heap.size + 1 + 1]? = some (.cells [.int .i64 ev.src, .int .i64 ev.sq, .int .i64 ev.ty, .int .i64 ev.tm, .slice Au ev.vals.length cu].toArray 71 (0, 0)) := by
    rw [e9]; repeat (first | exact heap_new' _ _ _ (by simp) | apply heap_old)
  have hB : VBox W9 (w.heap.size + 1 + 1 + 1) := ⟨.int .i64 0, .int .i64 0, .string ⟨#[]⟩, by rw [e9]; repeat (first | exact heap_new' _ _ _ (by simp) | apply heap_old)⟩
  have hb9 : Below w.heap.size w W9 := by rw [e9]; exact (by repeat (first | exact Below.refl _ _ | assumption | refine Below.drew ?_ | refine bel_al ?_ _ | refine bel_set ?_ (by omega) _ | refine bel_tr ?_ (by assumption)))
  clear e9
  refine (HCK.out _ hb9).mono ?_
  rintro e w3 ⟨rfl, hb3⟩
  have HX := Lib.hid (heap_stays hb3 hX)
  have HE := Lib.hid (heap_stays hb3 hE)
  have HV := Lib.hid (heap_stays hb3 hV)
  have HB := Lib.hid (hB.stays hb3)
  have HW3 := Lib.hid (bel_tr hb9 hb3)
  obtain ⟨X, hXe⟩ : ∃ X, X = w.heap.size := ⟨_, rfl⟩
  rw [← hXe] at HX HE HV HB ⊢
  have hXw : w.heap.size ≤ X + 1 + 1 + 1 := by omega
  clear hX hE hV hB hb9 hb3 hXe HCK
  by_cases hz : ce = 0
  case neg =>
    obtain ⟨e1, e2⟩ : zeroVl = RV ∧ ce = re := by have h := HR.out; rw [if_pos hz] at h; injection h with e1 e2; exact ⟨e1, e2⟩
    subst e1 e2
    have hz' : (ce != 0) = true := by simpa using hz
    obtain ⟨a0, b0, c0, z0, z1, z2, f0, f1, f2⟩ := HB.out.facts
    clear hz
    go_wp2_with fail
    exact bodyPost_ret (v := .tuple #[.agg #[.int .i64 0, .int .i64 0, .string ⟨#[]⟩], .int .i64 ce]) (by simp [results, Tryz.results81, go_sem, cell_set_self, z0, z1, z2]) rfl ⟨rfl, bel_3 HW3.out (by omega) _ _ _⟩
  subst hz
  have HN0 := Lib.hid (HN.out rfl)
  obtain ⟨e1, e2⟩ : QV = RV ∧ qe = re := by have h := HR.out; rw [if_neg (by simp)] at h; injection h with e1 e2; exact ⟨e1, e2⟩
  subst e1 e2
  obtain ⟨q0, q1, q2, q3, q4, q5, q6, q7⟩ := blk8 HX.out
  have r0 : w3.cell? ⟨X + 1, 0, none⟩ = some (.slice A vs.length c) := blk_cell HE.out 0
  obtain ⟨t0, t1, t2, t3, t4⟩ := blk5 HV.out
  go_wp2_with fail
  refine (HEV.out _ HW3.out HN0.out).mono ?_
  rintro e w4 ⟨rfl, hb4⟩
  obtain ⟨a0, b0, c0, z0, z1, z2, f0, f1, f2⟩ := (HB.out.stays hb4).facts
  go_wp2_with fail
  exact bodyPost_ret (v := .tuple #[.agg #[.int .i64 QV.kind, .int .i64 QV.num, .string QV.text], .int .i64 qe]) (by simp [results, Tryz.results81, go_sem, cell_set_self, z0, z1, z2]) rfl ⟨rfl, bel_3 (bel_tr HW3.out hb4) (by omega) _ _ _⟩
end Go.Proofs.YtclpglgigpjfoaaGreatDoor
