/- The value of an expression: (evaluator).eval. Printed by gen_eval.py. -/
import Derived.Test.YtclpglgigpjfoaaGreatDoorQMevx
namespace Go.Proofs.YtclpglgigpjfoaaGreatDoor
open Go.RowKit

set_option maxRecDepth 100000 in
set_option maxHeartbeats 16000000 in
theorem eval_step (d : Nat) (vs : List (List Evt)) (v : Value) (own : Int) (ev : Evt) (u : Value) (m : Nat) (hsm : ∀ k, (evsAt vs k).length ≤ 1048576)
    (hrec : ∀ d', d = d' + 1 → ∀ (x : Ex) (vx : Value) (w : World), IsVars w v vs → IsVls w u ev.vals → OpsAt w m → IsExs d' w vx x.args → nodesE x = 0 →
      Calls Tryz.prog 114 #[evaV v own ev u m, exV x vx] w fun e w' => e = .returned (.tuple #[vlV (evalR vs own ev x).1, .int .i64 (evalR vs own ev x).2]) ∧ Below w.heap.size w w')
    (x : Ex) (vx : Value) (w : World) (hv : IsVars w v vs) (hu : IsVls w u ev.vals) (ho : OpsAt w m) (hx : IsExs d w vx x.args) (hn : nodesE x = 0) :
    Calls Tryz.prog 114 #[evaV v own ev u m, exV x vx] w fun e w' => e = .returned (.tuple #[vlV (evalR vs own ev x).1, .int .i64 (evalR vs own ev x).2]) ∧ Below w.heap.size w w' := by
  have HREC := Lib.hid hrec
  have HV := Lib.hid hv
  have HU := Lib.hid hu
  have HO := Lib.hid ho
  obtain ⟨hn1, hnA⟩ := nodesE_at hn
  obtain ⟨n0, n12, nar, nfl⟩ := node_ok hn1
  obtain ⟨op, l, vr, fl, kd, vl⟩ := x
  obtain ⟨⟨RV, re⟩, hR⟩ : ∃ r, evalR vs own ev (.mk op l vr fl kd vl) = r := ⟨_, rfl⟩
  rw [hR]
  simp only [Ex.op, Ex.args, Ex.fl] at n0 n12 nar nfl hnA hx
  obtain ⟨A, c, rfl, -⟩ := hv
  obtain ⟨Au, cu, rfl, -⟩ := hu
  obtain ⟨Ax, cx, rfl, h1, h2, hat⟩ := hx
  have hn63 := len_i64 h1 h2
  have HL := Lib.hid hat
  have HNA := Lib.hid hnA
  have HNF := Lib.hid nfl
  have HSM := Lib.hid hsm
  clear hrec ho hn hn1 hnA h1 h2 hat nfl hsm
  rw [evalR_mk] at hR
  by_cases hl0 : l.length = 0
  · obtain rfl : l = [] := List.eq_nil_of_length_eq_zero hl0
    rw [if_pos hl0] at hR
    have hop4 := arN_leaf n0 n12 nar.symm
    have HLF := Lib.hid (fun W (hW : Below w.heap.size w W) => leaf_any vs _ own ev _ m (.mk op [] vr fl kd vl) Ax 0 cx W (HV.out.stays varAt_stays hW) (HU.out.stays vlAt_stays hW) ⟨n0, hop4⟩ HNF.out (HSM.out _))
    rw [hR] at HLF
    clear hR hl0 nar HL HNA HREC hn63
    unfold evaV exV at *
    simp only [Ex.op, Ex.vr, Ex.fl, Ex.kd, Ex.val, List.length_nil] at *
    unfold vlV at *
    go_enter Tryz.func114, Tryz.ntmps114
    go_wp2_with fail
    refine calls_gen fun W9 e9 => ?_
    have hB : VBox W9 (w.heap.size + 1 + 1) := ⟨.int .i64 0, .int .i64 0, .string ⟨#[]⟩, by rw [e9]; repeat (first | exact heap_new' _ _ _ (by simp) | apply heap_old)⟩
    have hb9 : Below w.heap.size w W9 := by rw [e9]; exact (by repeat (first | exact Below.refl _ _ | assumption | refine Below.drew ?_ | refine bel_al ?_ _ | refine bel_set ?_ (by omega) _ | refine bel_tr ?_ (by assumption)))
    clear e9
    refine (HLF.out _ hb9).mono ?_
    rintro e w1 ⟨rfl, hb1⟩
    obtain ⟨a0, b0, c0, z0, z1, z2, f0, f1, f2⟩ := (hB.stays hb1).facts
    go_wp2_with fail
    exact bodyPost_ret (v := .tuple #[.agg #[.int .i64 RV.kind, .int .i64 RV.num, .string RV.text], .int .i64 re]) (by simp [results, Tryz.results114, go_sem, cell_set_self, z0, z1, z2]) rfl ⟨rfl, bel_3 (bel_tr hb9 hb1) (by omega) _ _ _⟩
  have hl0' : ((l.length : Int) == 0) = false := by rw [beq_eq_false_iff_ne]; omega
  rw [if_neg hl0] at hR
  obtain ⟨n5, nar2⟩ := arN_node n0 n12 (by omega)
  rw [nar2] at nar
  have hl2 : l.length ≤ 2 := by split at nar <;> omega
  obtain ⟨FR, hFR⟩ : ∃ r, evalL vs own ev l = r := ⟨_, rfl⟩
  rw [hFR] at hR
  have HR := Lib.hid hR
  have HFR := Lib.hid hFR
  have HAR := Lib.hid nar
  clear hR hFR hl0 nar2 nar
  unfold evaV exV at *
  simp only [Ex.op, Ex.args, Ex.vr, Ex.fl, Ex.kd, Ex.val] at *
  unfold vlV at *
  obtain ⟨i0, hi, hz0, hz1, hz2⟩ := info_parts info_vl
  obtain ⟨i1, hi1, hy0, hy1, hy2⟩ := info_parts info_int
  go_enter Tryz.func114, Tryz.ntmps114
  go_wp2_with fail
  refine wp_gen fun w1 e1 => ?_
  have hE : w1.heap[w.heap.size]? = some (.cells [.slice A vs.length c, .int .i64 own, .int .i64 ev.src, .int .i64 ev.sq, .int .i64 ev.ty, .int .i64 ev.tm, .slice Au ev.vals.length cu, .map (some m)].toArray 186 (0, 0)) := by
    rw [e1]; repeat (first | exact heap_new' _ _ _ (by simp) | apply heap_old)
  have hX : w1.heap[w.heap.size + 1]? = some (.cells [.int .i64 op, .slice Ax l.length cx, .int .i64 vr, .int .i64 fl, .int .i64 kd, .int .i64 vl.kind, .int .i64 vl.num, .string vl.text].toArray 90 (0, 0)) := by
    rw [e1]; repeat (first | exact heap_new' _ _ _ (by simp) | apply heap_old)
  have hB : VBox w1 (w.heap.size + 1 + 1) := ⟨.int .i64 0, .int .i64 0, .string ⟨#[]⟩, by rw [e1]; repeat (first | exact heap_new' _ _ _ (by simp) | apply heap_old)⟩
  have hb1 : Below w.heap.size w w1 := by rw [e1]; exact (by repeat (first | exact Below.refl _ _ | assumption | refine Below.drew ?_ | refine bel_al ?_ _ | refine bel_set ?_ (by omega) _ | refine bel_tr ?_ (by assumption)))
  have HE := Lib.hid hE
  have HX := Lib.hid hX
  have HB := Lib.hid hB
  have HW1 := Lib.hid hb1
  have hXl := hB.lt
  obtain ⟨X, hXe⟩ : ∃ X, X = w.heap.size + 1 := ⟨_, rfl⟩
  obtain ⟨E, hEe⟩ : ∃ E, E = w.heap.size := ⟨_, rfl⟩
  have hX2 : X + 1 < w1.heap.size := by omega
  have hX0 : X < w1.heap.size := by omega
  have hE0 : E < w1.heap.size := by omega
  have hX3 : w.heap.size ≤ X := by omega
  have hEB : E ≠ X + 1 := by omega
  rw [← hXe] at HX HB ⊢
  rw [← hEe] at HE ⊢
  clear hE hX hB hb1 e1 hXl hXe hEe
  go_loopw [6, 7, 25] (fun av bv i wr => ∃ (k : Nat) (pre : List Vl), k ≤ l.length ∧ pre.length = k ∧ i = .int .i64 k ∧ Hid (TW w1.heap.size av bv k k pre (pre.map (·.kind)) wr) ∧ Hid ((pre ++ (evalL vs own ev (l.drop k)).1, (evalL vs own ev (l.drop k)).2) = FR ∧ Below w1.heap.size w1 wr)) (fun _ _ i _ => l.length - (intOf i).toNat)
  case atStart => exact ⟨0, [], Nat.zero_le _, rfl, rfl, Lib.hid ⟨⟨rfl, .inl ⟨rfl, rfl⟩⟩, ⟨rfl, .inl ⟨rfl, rfl⟩⟩, fun g h => by simp [Value.ownBlock] at h⟩, Lib.hid ⟨by rw [List.drop_zero, HFR.out]; rfl, Below.refl _ _⟩⟩
  case round =>
    obtain ⟨k, pre, hk, hpl, rfl, hrow, hI⟩ := hrel
    have hb := hI.out.2
    obtain ⟨Ar, cr, rfl⟩ := slice_own hrow.out.1
    obtain ⟨Ak, ck, rfl⟩ := slice_own hrow.out.2.1
    have hsz := hb.size
    have HBr := Lib.hid (HB.out.stays hb)
    by_cases hlt : k < l.length
    · have hk' : (k : Int) < (l.length : Int) := by omega
      obtain ⟨b, o, rfl, hea⟩ := HL.out k l[k] (List.getElem?_eq_getElem hlt)
      have hg := Lib.hid (List.getElem?_eq_getElem hlt)
      obtain ⟨a, ha⟩ : ∃ a, a = l[k] := ⟨_, rfl⟩
      rw [← ha] at hg hea
      clear ha
      obtain ⟨d', v', hd', hv', p0, p1, p2, p3, p4, p5, p6, p7⟩ := ex_open (exAt_stays d _ _ _ _ _ (bel_tr HW1.out hb) hea)
      have hna := HNA.out k a hg.out
      have hv2 := hv'
      obtain ⟨A', c', hvv, -⟩ := hv2
      subst hvv
      obtain ⟨⟨fv, fe⟩, hQ⟩ : ∃ r, evalR vs own ev a = r := ⟨_, rfl⟩
      have HC := Lib.hid (fun (W : World) (hW : Below wr.heap.size wr W) => HREC.out d' hd' a _ W (HV.out.stays varAt_stays (bel_tr HW1.out (bel_tr hb hW))) (HU.out.stays vlAt_stays (bel_tr HW1.out (bel_tr hb hW))) (HO.out.stays (bel_tr HW1.out (bel_tr hb hW))) (hv'.stays (exAt_stays d') hW) hna)
      rw [hQ] at HC
      have HQ := Lib.hid hQ
      obtain ⟨r0, r1, r2, r3, r4, r5, r6, r7⟩ := blk8 (heap_stays hb HE.out)
      have hel : E < wr.heap.size := by omega
      have hxl : X < wr.heap.size := by omega
      have hxl1 : X + 1 < wr.heap.size := by omega
      clear hQ hea hd' hv' hna
      go_wp2_with fail
      refine (HC.out _ ?_).mono ?_
      · exact (by repeat (first | exact Below.refl _ _ | assumption | refine Below.drew ?_ | refine bel_al ?_ _ | refine bel_set ?_ (by omega) _ | refine bel_tr ?_ (by assumption)))
      rintro e w2 ⟨rfl, hb2⟩
      have HB2r : Hid (Below wr.heap.size wr w2) := Lib.hid (bel_tr (by exact (by repeat (first | exact Below.refl _ _ | assumption | refine Below.drew ?_ | refine bel_al ?_ _ | refine bel_set ?_ (by omega) _ | refine bel_tr ?_ (by assumption)))) hb2)
      have HB2 := Lib.hid (bel_tr hb HB2r.out)
      clear hb2 r0 r1 r2 r3 r4 r5 r6 r7 p0 p1 p2 p3 p4 p5 p6 p7
      have hs2 := HB2.out.size
      have hxl2 : X + 1 < w2.heap.size := by omega
      have h := hI.out.1
      rw [evalL_drop hg.out, HQ.out] at h
      by_cases hz : fe = 0
      case neg =>
        rw [if_pos hz] at h
        obtain ⟨e1, e2⟩ : zeroVl = RV ∧ fe = re := by
          have h2 := HR.out
          rw [← h, nodeR, if_pos hz] at h2
          injection h2 with e1 e2
          exact ⟨e1, e2⟩
        subst e1 e2
        obtain ⟨a0, b0, c0, z0, z1, z2, f0, f1, f2⟩ := (HB.out.stays HB2.out).facts
        have hz' : (fe != 0) = true := by simpa using hz
        clear h hz
        go_wp2_with fail
        exact bodyPost_ret (v := .tuple #[.agg #[.int .i64 0, .int .i64 0, .string ⟨#[]⟩], .int .i64 fe]) (by simp [results, Tryz.results114, go_sem, cell_set_self, z0, z1, z2, hxl2]) rfl ⟨rfl, bel_al (bel_3 (bel_tr HW1.out HB2.out) (by omega) _ _ _) _⟩
      subst hz
      rw [if_neg (by simp)] at h
      have HH := Lib.hid h
      clear h
      go_wp2_with fail
      refine wp_gen fun w5 e5 => ?_
      have q0 : w5.cell? ⟨w2.heap.size, 0, none⟩ = some (.int .i64 fv.kind) := by rw [e5]; go_simp
      have q1 : w5.cell? ⟨w2.heap.size, 1, none⟩ = some (.int .i64 fv.num) := by rw [e5]; go_simp
      have q2 : w5.cell? ⟨w2.heap.size, 2, none⟩ = some (.string fv.text) := by rw [e5]; go_simp
      have hb5 : Below w2.heap.size w2 w5 := by rw [e5]; exact (by repeat (first | exact Below.refl _ _ | assumption | refine Below.drew ?_ | refine bel_al ?_ _ | refine bel_set ?_ (by omega) _ | refine bel_tr ?_ (by assumption)))
      clear e5
      have HB5r := Lib.hid (bel_tr HB2r.out hb5)
      have HB5 := Lib.hid (bel_tr hb HB5r.out)
      have hTW := (hrow.out.below HB5r.out).below (Below.refl _ _).drew
      have hqT : ∀ g, (Value.slice Ar k cr).ownBlock = some g → g ≠ w2.heap.size := fun g hg => by have := (ownsRow_lt hrow.out.1 hg).2; have := HB2r.out.size; omega
      have hqU : ∀ g, (Value.slice Ak k ck).ownBlock = some g → g ≠ w2.heap.size := fun g hg => by have := (ownsRow_lt hrow.out.2.1 hg).2; have := HB2r.out.size; omega
      obtain ⟨av, hAV⟩ : ∃ av, av = Value.slice Ar k cr := ⟨_, rfl⟩
      obtain ⟨bv, hBV⟩ : ∃ bv, bv = Value.slice Ak k ck := ⟨_, rfl⟩
      rw [← hAV] at hTW hqT ⊢
      rw [← hBV] at hTW hqU ⊢
      have hks : k ≤ 2 := by omega
      clear hAV hBV hb5
      refine wp_region_noPanic ?_
      refine wp_region_held_drew (S := fun W => Below w1.heap.size w1 W ∧ W.cell? ⟨w2.heap.size, 0, none⟩ = some (.int .i64 fv.kind) ∧ W.cell? ⟨w2.heap.size, 1, none⟩ = some (.int .i64 fv.num) ∧ W.cell? ⟨w2.heap.size, 2, none⟩ = some (.string fv.text)) (by kernel_rfl) (⟨(HB5.out).drew, q0, q1, q2⟩) (fun hHeld => ?_)
      generalize w5.drew = wD at hHeld hTW ⊢
      focus (refine wpAnyH_take2 (i := 0) (fuel := 10) (L := (true :: false :: false :: false :: false :: false :: false :: false :: false :: false :: false :: []).toArray) (v := ?_) rfl rfl (by kernel_rfl) (by kernel_rfl) (by kernel_rfl) (by kernel_rfl) (fun _ _ _ h => h) (by kernel_rfl) ?_ (by assumption) ?_; rotate_left 1; (focus (intro wS hSw; (try dsimp only at hSw); go_simp <;> with_reducible rfl)); simp only [List.set_cons_zero, List.set_cons_succ])
      focus (refine wpAnyH_take2 (i := 1) (fuel := 9) (L := (true :: true :: false :: false :: false :: false :: false :: false :: false :: false :: false :: []).toArray) (v := ?_) rfl rfl (by kernel_rfl) (by kernel_rfl) (by kernel_rfl) (by kernel_rfl) (fun _ _ _ h => h) (by kernel_rfl) ?_ (by assumption) ?_; rotate_left 1; (focus (intro wS hSw; (try dsimp only at hSw); go_simp <;> with_reducible rfl)); simp only [List.set_cons_zero, List.set_cons_succ])
      focus (refine wpAnyH_take2 (i := 4) (fuel := 8) (L := (true :: true :: false :: false :: true :: false :: false :: false :: false :: false :: false :: []).toArray) (v := ?_) rfl rfl (by kernel_rfl) (by kernel_rfl) (by kernel_rfl) (by kernel_rfl) (fun _ _ _ h => h) (by kernel_rfl) ?_ (by assumption) ?_; rotate_left 1; (focus (intro wS hSw; (try dsimp only at hSw); go_simp <;> with_reducible rfl)); simp only [List.set_cons_zero, List.set_cons_succ])
      focus (refine wpAnyH_take2 (i := 5) (fuel := 7) (L := (true :: true :: false :: false :: true :: true :: false :: false :: false :: false :: false :: []).toArray) (v := ?_) rfl rfl (by kernel_rfl) (by kernel_rfl) (by kernel_rfl) (by kernel_rfl) (fun _ _ _ h => h) (by kernel_rfl) ?_ (by assumption) ?_; rotate_left 1; (focus (intro wS hSw; (try dsimp only at hSw); go_simp <;> with_reducible rfl)); simp only [List.set_cons_zero, List.set_cons_succ])
      focus (refine wpAnyH_take2 (i := 6) (fuel := 6) (L := (true :: true :: false :: false :: true :: true :: true :: false :: false :: false :: false :: []).toArray) (v := ?_) rfl rfl (by kernel_rfl) (by kernel_rfl) (by kernel_rfl) (by kernel_rfl) (fun _ _ _ h => h) (by kernel_rfl) ?_ (by assumption) ?_; rotate_left 1; (focus (intro wS hSw; (try dsimp only at hSw); go_simp <;> with_reducible rfl)); simp only [List.set_cons_zero, List.set_cons_succ])
      refine wpAnyH_ready (rs := [2, 7]) (by kernel_rfl) (by simp) ?_
      refine AllReadyH.cons rfl (fun K hK => ?_) ?_
      focus (go_simp; refine al_src (K := fun W => K _ W) (cs := [.int .i64 fv.kind, .int .i64 fv.num, .string fv.text]) (n := 1) (sz := 3) rfl (by intro u hu; simp only [List.mem_cons, List.not_mem_nil, or_false] at hu; rcases hu with rfl | rfl | rfl <;> rfl) fun wA hbA hsA => ?_; have hTW := hTW.below hbA; (try have hsB := hsB.stays hbA))
      refine hK.out _ _ (⟨bel_tr hHeld.1 hbA, cell_stays hbA hHeld.2.1, cell_stays hbA hHeld.2.2.1, cell_stays hbA hHeld.2.2.2⟩) (fun hHeld => ?_)
      clear hK K
      try simp only [List.setIfInBounds_toArray, List.set_cons_zero, List.set_cons_succ]
      refine wpAnyH_ready (rs := [3, 7]) (by kernel_rfl) (by simp) ?_
      refine AllReadyH.cons rfl (fun K hK => ?_) ?_
      focus (have hR6 := hTW.1; refine at_app _ (.tmp 39) (.tmp 41) 69 (by rfl) w1.heap.size 88 i0 _ 3 32 Tryz.underlying69 hi hz0 hz1 hz2 rfl (by decide) av k (vlCells pre) (by rfl) hTW.1 _ 1 1 _ (by rfl) hsA (by unfold maxLen; omega) (by omega) (hHeld.1.size) ?_; intro v8 w8 hown8 hg8 hloc8; (try have hsB := src_grown hg8 hsB (fun e => hqB _ e rfl)); have hTW := hTW.app6 hown8 hg8 hloc8)
      refine hK.out _ _ (⟨hHeld.1.trans (grown_below hg8 hHeld.1.size (fun g h => (ownsRow_lt hR6 h).1)), cell_grown hg8 hHeld.2.1 (fun e => hqT _ e rfl), cell_grown hg8 hHeld.2.2.1 (fun e => hqT _ e rfl), cell_grown hg8 hHeld.2.2.2 (fun e => hqT _ e rfl)⟩) (fun hHeld => ?_)
      clear hK K
      try simp only [Act.put, List.setIfInBounds_toArray, List.set_cons_zero, List.set_cons_succ]
      refine wpAnyH_next (i := 7) (fuel := 3) (L := (true :: true :: true :: true :: true :: true :: true :: true :: false :: false :: false :: []).toArray) rfl (by kernel_rfl) (by kernel_rfl) (by kernel_rfl) (fun K hK => ?_)
      focus (go_simp; (try have hqB : ∀ g, av.ownBlock = some g → g ≠ _ := fun g hg => Nat.ne_of_lt (ownsRow_lt hTW.1 hg).2); refine al_src (K := fun W => K _ W) (cs := [.int .i64 fv.kind]) (n := 1) (sz := 1) rfl (by intro u hu; simp only [List.mem_cons, List.not_mem_nil, or_false] at hu; subst hu; rfl) fun wB hbB hsB => ?_; have hTW := hTW.below hbB; (try have hsA := hsA.stays hbB))
      refine hK.out _ _ (⟨bel_tr hHeld.1 hbB, cell_stays hbB hHeld.2.1, cell_stays hbB hHeld.2.2.1, cell_stays hbB hHeld.2.2.2⟩) (fun hHeld => ?_)
      clear hK K
      refine wpAnyH_next (i := 8) (fuel := 2) (L := (true :: true :: true :: true :: true :: true :: true :: true :: true :: false :: false :: []).toArray) rfl (by kernel_rfl) (by kernel_rfl) (by kernel_rfl) (fun K hK => ?_)
      focus (have hR7 := hTW.2.1; refine at_app _ (.tmp 43) (.tmp 46) 84 (by rfl) w1.heap.size 3 i1 _ 1 8 Tryz.underlying84 hi1 hy0 hy1 hy2 rfl (by decide) bv k (inCells (pre.map (·.kind))) (by rfl) hTW.2.1 _ 1 1 _ (by rfl) hsB (by unfold maxLen; omega) (by omega) (hHeld.1.size) ?_; intro v9 w9 hown9 hg9 hloc9; have hTW' := hTW.app7 hown9 hg9 hloc9)
      refine hK.out _ _ (⟨hHeld.1.trans (grown_below hg9 hHeld.1.size (fun g h => (ownsRow_lt hR7 h).1)), cell_grown hg9 hHeld.2.1 (fun e => hqU _ e rfl), cell_grown hg9 hHeld.2.2.1 (fun e => hqU _ e rfl), cell_grown hg9 hHeld.2.2.2 (fun e => hqU _ e rfl)⟩) (fun hHeld => ?_)
      clear hK K
      focus (refine wpAnyH_take2 (i := 9) (fuel := 1) (L := (true :: true :: true :: true :: true :: true :: true :: true :: true :: true :: false :: []).toArray) (v := ?_) rfl rfl (by kernel_rfl) (by kernel_rfl) (by kernel_rfl) (by kernel_rfl) (fun _ _ _ h => h) (by kernel_rfl) ?_ (by assumption) ?_; rotate_left 1; (focus (intro wS hSw; (try dsimp only at hSw); go_simp <;> with_reducible rfl)); simp only [List.set_cons_zero, List.set_cons_succ])
      focus (refine wpAnyH_take2 (i := 10) (fuel := 0) (L := (true :: true :: true :: true :: true :: true :: true :: true :: true :: true :: true :: []).toArray) (v := ?_) rfl rfl (by kernel_rfl) (by kernel_rfl) (by kernel_rfl) (by kernel_rfl) (fun _ _ _ h => h) (by kernel_rfl) ?_ (by assumption) ?_; rotate_left 1; (focus (intro wS hSw; (try dsimp only at hSw); go_simp <;> with_reducible rfl)); simp only [List.set_cons_zero, List.set_cons_succ])
      refine wpAnyH_done (by kernel_rfl) (NoPanic.normal ?_) _
      rotate_left 1
      refine AllReadyH.cons rfl (fun K hK => ?_) ?_
      focus (go_simp; (try have hqB : ∀ g, av.ownBlock = some g → g ≠ _ := fun g hg => Nat.ne_of_lt (ownsRow_lt hTW.1 hg).2); refine al_src (K := fun W => K _ W) (cs := [.int .i64 fv.kind]) (n := 1) (sz := 1) rfl (by intro u hu; simp only [List.mem_cons, List.not_mem_nil, or_false] at hu; subst hu; rfl) fun wB hbB hsB => ?_; have hTW := hTW.below hbB; (try have hsA := hsA.stays hbB))
      refine hK.out _ _ (⟨bel_tr hHeld.1 hbB, cell_stays hbB hHeld.2.1, cell_stays hbB hHeld.2.2.1, cell_stays hbB hHeld.2.2.2⟩) (fun hHeld => ?_)
      clear hK K
      try simp only [List.setIfInBounds_toArray, List.set_cons_zero, List.set_cons_succ]
      refine wpAnyH_next (i := 3) (fuel := 3) (L := (true :: true :: true :: true :: true :: true :: true :: true :: false :: false :: false :: []).toArray) rfl (by kernel_rfl) (by kernel_rfl) (by kernel_rfl) (fun K hK => ?_)
      focus (have hR6 := hTW.1; refine at_app _ (.tmp 39) (.tmp 41) 69 (by rfl) w1.heap.size 88 i0 _ 3 32 Tryz.underlying69 hi hz0 hz1 hz2 rfl (by decide) av k (vlCells pre) (by rfl) hTW.1 _ 1 1 _ (by rfl) hsA (by unfold maxLen; omega) (by omega) (hHeld.1.size) ?_; intro v8 w8 hown8 hg8 hloc8; (try have hsB := src_grown hg8 hsB (fun e => hqB _ e rfl)); have hTW := hTW.app6 hown8 hg8 hloc8)
      refine hK.out _ _ (⟨hHeld.1.trans (grown_below hg8 hHeld.1.size (fun g h => (ownsRow_lt hR6 h).1)), cell_grown hg8 hHeld.2.1 (fun e => hqT _ e rfl), cell_grown hg8 hHeld.2.2.1 (fun e => hqT _ e rfl), cell_grown hg8 hHeld.2.2.2 (fun e => hqT _ e rfl)⟩) (fun hHeld => ?_)
      clear hK K
      refine wpAnyH_next (i := 8) (fuel := 2) (L := (true :: true :: true :: true :: true :: true :: true :: true :: true :: false :: false :: []).toArray) rfl (by kernel_rfl) (by kernel_rfl) (by kernel_rfl) (fun K hK => ?_)
      focus (have hR7 := hTW.2.1; refine at_app _ (.tmp 43) (.tmp 46) 84 (by rfl) w1.heap.size 3 i1 _ 1 8 Tryz.underlying84 hi1 hy0 hy1 hy2 rfl (by decide) bv k (inCells (pre.map (·.kind))) (by rfl) hTW.2.1 _ 1 1 _ (by rfl) hsB (by unfold maxLen; omega) (by omega) (hHeld.1.size) ?_; intro v9 w9 hown9 hg9 hloc9; have hTW' := hTW.app7 hown9 hg9 hloc9)
      refine hK.out _ _ (⟨hHeld.1.trans (grown_below hg9 hHeld.1.size (fun g h => (ownsRow_lt hR7 h).1)), cell_grown hg9 hHeld.2.1 (fun e => hqU _ e rfl), cell_grown hg9 hHeld.2.2.1 (fun e => hqU _ e rfl), cell_grown hg9 hHeld.2.2.2 (fun e => hqU _ e rfl)⟩) (fun hHeld => ?_)
      clear hK K
      focus (refine wpAnyH_take2 (i := 9) (fuel := 1) (L := (true :: true :: true :: true :: true :: true :: true :: true :: true :: true :: false :: []).toArray) (v := ?_) rfl rfl (by kernel_rfl) (by kernel_rfl) (by kernel_rfl) (by kernel_rfl) (fun _ _ _ h => h) (by kernel_rfl) ?_ (by assumption) ?_; rotate_left 1; (focus (intro wS hSw; (try dsimp only at hSw); go_simp <;> with_reducible rfl)); simp only [List.set_cons_zero, List.set_cons_succ])
      focus (refine wpAnyH_take2 (i := 10) (fuel := 0) (L := (true :: true :: true :: true :: true :: true :: true :: true :: true :: true :: true :: []).toArray) (v := ?_) rfl rfl (by kernel_rfl) (by kernel_rfl) (by kernel_rfl) (by kernel_rfl) (fun _ _ _ h => h) (by kernel_rfl) ?_ (by assumption) ?_; rotate_left 1; (focus (intro wS hSw; (try dsimp only at hSw); go_simp <;> with_reducible rfl)); simp only [List.set_cons_zero, List.set_cons_succ])
      refine wpAnyH_done (by kernel_rfl) (NoPanic.normal ?_) _
      rotate_left 1
      exact AllReadyH.nil
      refine AllReadyH.cons rfl (fun K hK => ?_) ?_
      focus (go_simp; (try have hqB : ∀ g, av.ownBlock = some g → g ≠ _ := fun g hg => Nat.ne_of_lt (ownsRow_lt hTW.1 hg).2); refine al_src (K := fun W => K _ W) (cs := [.int .i64 fv.kind]) (n := 1) (sz := 1) rfl (by intro u hu; simp only [List.mem_cons, List.not_mem_nil, or_false] at hu; subst hu; rfl) fun wB hbB hsB => ?_; have hTW := hTW.below hbB; (try have hsA := hsA.stays hbB))
      refine hK.out _ _ (⟨bel_tr hHeld.1 hbB, cell_stays hbB hHeld.2.1, cell_stays hbB hHeld.2.2.1, cell_stays hbB hHeld.2.2.2⟩) (fun hHeld => ?_)
      clear hK K
      try simp only [List.setIfInBounds_toArray, List.set_cons_zero, List.set_cons_succ]
      refine wpAnyH_next (i := 2) (fuel := 4) (L := (true :: true :: true :: false :: true :: true :: true :: true :: false :: false :: false :: []).toArray) rfl (by kernel_rfl) (by kernel_rfl) (by kernel_rfl) (fun K hK => ?_)
      focus (go_simp; refine al_src (K := fun W => K _ W) (cs := [.int .i64 fv.kind, .int .i64 fv.num, .string fv.text]) (n := 1) (sz := 3) rfl (by intro u hu; simp only [List.mem_cons, List.not_mem_nil, or_false] at hu; rcases hu with rfl | rfl | rfl <;> rfl) fun wA hbA hsA => ?_; have hTW := hTW.below hbA; (try have hsB := hsB.stays hbA))
      refine hK.out _ _ (⟨bel_tr hHeld.1 hbA, cell_stays hbA hHeld.2.1, cell_stays hbA hHeld.2.2.1, cell_stays hbA hHeld.2.2.2⟩) (fun hHeld => ?_)
      clear hK K
      refine wpAnyH_next (i := 3) (fuel := 3) (L := (true :: true :: true :: true :: true :: true :: true :: true :: false :: false :: false :: []).toArray) rfl (by kernel_rfl) (by kernel_rfl) (by kernel_rfl) (fun K hK => ?_)
      focus (have hR6 := hTW.1; refine at_app _ (.tmp 39) (.tmp 41) 69 (by rfl) w1.heap.size 88 i0 _ 3 32 Tryz.underlying69 hi hz0 hz1 hz2 rfl (by decide) av k (vlCells pre) (by rfl) hTW.1 _ 1 1 _ (by rfl) hsA (by unfold maxLen; omega) (by omega) (hHeld.1.size) ?_; intro v8 w8 hown8 hg8 hloc8; (try have hsB := src_grown hg8 hsB (fun e => hqB _ e rfl)); have hTW := hTW.app6 hown8 hg8 hloc8)
      refine hK.out _ _ (⟨hHeld.1.trans (grown_below hg8 hHeld.1.size (fun g h => (ownsRow_lt hR6 h).1)), cell_grown hg8 hHeld.2.1 (fun e => hqT _ e rfl), cell_grown hg8 hHeld.2.2.1 (fun e => hqT _ e rfl), cell_grown hg8 hHeld.2.2.2 (fun e => hqT _ e rfl)⟩) (fun hHeld => ?_)
      clear hK K
      refine wpAnyH_next (i := 8) (fuel := 2) (L := (true :: true :: true :: true :: true :: true :: true :: true :: true :: false :: false :: []).toArray) rfl (by kernel_rfl) (by kernel_rfl) (by kernel_rfl) (fun K hK => ?_)
      focus (have hR7 := hTW.2.1; refine at_app _ (.tmp 43) (.tmp 46) 84 (by rfl) w1.heap.size 3 i1 _ 1 8 Tryz.underlying84 hi1 hy0 hy1 hy2 rfl (by decide) bv k (inCells (pre.map (·.kind))) (by rfl) hTW.2.1 _ 1 1 _ (by rfl) hsB (by unfold maxLen; omega) (by omega) (hHeld.1.size) ?_; intro v9 w9 hown9 hg9 hloc9; have hTW' := hTW.app7 hown9 hg9 hloc9)
      refine hK.out _ _ (⟨hHeld.1.trans (grown_below hg9 hHeld.1.size (fun g h => (ownsRow_lt hR7 h).1)), cell_grown hg9 hHeld.2.1 (fun e => hqU _ e rfl), cell_grown hg9 hHeld.2.2.1 (fun e => hqU _ e rfl), cell_grown hg9 hHeld.2.2.2 (fun e => hqU _ e rfl)⟩) (fun hHeld => ?_)
      clear hK K
      focus (refine wpAnyH_take2 (i := 9) (fuel := 1) (L := (true :: true :: true :: true :: true :: true :: true :: true :: true :: true :: false :: []).toArray) (v := ?_) rfl rfl (by kernel_rfl) (by kernel_rfl) (by kernel_rfl) (by kernel_rfl) (fun _ _ _ h => h) (by kernel_rfl) ?_ (by assumption) ?_; rotate_left 1; (focus (intro wS hSw; (try dsimp only at hSw); go_simp <;> with_reducible rfl)); simp only [List.set_cons_zero, List.set_cons_succ])
      focus (refine wpAnyH_take2 (i := 10) (fuel := 0) (L := (true :: true :: true :: true :: true :: true :: true :: true :: true :: true :: true :: []).toArray) (v := ?_) rfl rfl (by kernel_rfl) (by kernel_rfl) (by kernel_rfl) (by kernel_rfl) (fun _ _ _ h => h) (by kernel_rfl) ?_ (by assumption) ?_; rotate_left 1; (focus (intro wS hSw; (try dsimp only at hSw); go_simp <;> with_reducible rfl)); simp only [List.set_cons_zero, List.set_cons_succ])
      refine wpAnyH_done (by kernel_rfl) (NoPanic.normal ?_) _
      rotate_left 1
      exact AllReadyH.nil
      all_goals
        have hb9 : Below w1.heap.size w1 w9 := hHeld.1
        go_wp2_with fail
        refine ⟨⟨k + 1, pre ++ [fv], by omega, by simp [hpl], by go_num, Lib.hid (by rw [List.map_append]; exact hTW'), Lib.hid ⟨?_, hb9⟩⟩, by simp [intOf]; omega⟩
        have h := HH.out
        rw [List.append_assoc]
        exact h
    · have hk' : ¬ (k : Int) < (l.length : Int) := by omega
      have hkl : k = l.length := by omega
      have HIN := Lib.hid (inRow_is (l := pre.map (·.kind)) (by rw [List.length_map, hpl]; exact hrow.out.2.1))
      have HVL := Lib.hid (vlRow_is (l := pre) (by rw [hpl]; exact hrow.out.1))
      have HOP := Lib.hid (fun W (hW : Below wr.heap.size wr W) => operands_any op (pre.map (·.kind)) _ W (HIN.out.stays inAt_stays hW))
      have hFR : FR = (pre, 0) := by
        have h := hI.out.1
        rw [List.drop_of_length_le (by omega), evalL, List.append_nil] at h
        exact h.symm
      have hND := HR.out
      rw [hFR, nodeR_pre] at hND
      obtain ⟨oe, hoe⟩ : ∃ e, opE op (pre.map (·.kind)) = e := ⟨_, rfl⟩
      rw [hoe] at HOP hND
      have HND := Lib.hid hND
      obtain ⟨q0, q1, q2, q3, q4, q5, q6, q7⟩ := blk8 (heap_stays hb HX.out)
      have HK := Lib.hid hkl
      clear hFR hND hoe hkl
      go_wp2_with fail
      refine (HOP.out _ (Below.refl _ _)).mono ?_
      rintro e w3 ⟨rfl, hb3⟩
      have HB3 := Lib.hid (bel_tr hb hb3)
      have hs3 := HB3.out.size
      have h := HND.out
      obtain ⟨q0, q1, q2, q3, q4, q5, q6, q7⟩ := blk8 (heap_stays HB3.out HX.out)
      obtain ⟨a0, b0, c0, z0, z1, z2, f0, f1, f2⟩ := (HB.out.stays HB3.out).facts
      by_cases hz : oe = 0
      case neg =>
        rw [if_pos hz] at h
        injection h with e1 e2
        subst e1 e2
        have hz' : (oe != 0) = true := by simpa using hz
        clear hz
        go_wp2_with fail
        exact bodyPost_ret (v := .tuple #[.agg #[.int .i64 0, .int .i64 0, .string ⟨#[]⟩], .int .i64 oe]) (by simp [results, Tryz.results114, go_sem, cell_set_self, z0, z1, z2]) rfl ⟨rfl, bel_3 (bel_tr HW1.out HB3.out) (by omega) _ _ _⟩
      subst hz
      rw [if_neg (by simp)] at h
      obtain ⟨rv, hrv⟩ : ∃ r, applyR op (pre.headD zeroVl) (pre.getLastD zeroVl) = r := ⟨_, rfl⟩
      rw [hrv] at h
      injection h with e1 e2
      subst e1 e2
      have HVL3 := Lib.hid (HVL.out.stays vlAt_stays hb3)
      obtain ⟨r0, r1, r2, r3, r4, r5, r6, r7⟩ := blk8 (heap_stays HB3.out HE.out)
      have HB3v := Lib.hid (HB.out.stays HB3.out)
      have HW3 := Lib.hid (bel_tr HW1.out HB3.out)
      obtain ⟨g, hm, hgc⟩ := HO.out
      have HM := Lib.hid hm
      have HG := Lib.hid hgc
      have hXw : w.heap.size ≤ X + 1 := by omega
      have hrb : ∀ b o c, Value.slice Ar k cr = .slice (some ⟨b, o, none⟩) k c → b ≠ X + 1 := fun b o c e => by
        intro e2
        have h := ownsRow_lt hrow.out.1 (g := b) (by rw [e]; rfl)
        omega
      clear q1 q2 q3 q4 q5 q6 q7 r0 r1 r2 r3 r4 r5 r6 hm hgc a0 b0 c0 z0 z1 z2 f0 f1 f2 hb3
      have hop : op = 5 ∨ op = 6 ∨ op = 7 ∨ op = 8 ∨ op = 9 ∨ op = 10 ∨ op = 11 ∨ op = 12 := by omega
      rcases hop with rfl | rfl | rfl | rfl | rfl | rfl | rfl | rfl
      · obtain rfl : k = 2 := by have h := HAR.out; have h2 := HK.out; rw [if_neg (by decide)] at h; omega
        obtain ⟨a, b, rfl⟩ : ∃ a b, pre = [a, b] := by
          match pre, hpl with
          | [a, b], _ => exact ⟨a, b, rfl⟩
        obtain ⟨b1, o1, hA1, hb1l, u0, u1, u2⟩ := vls_cells (l := [a, b]) HVL3.out (k := 0) (by simp)
        obtain ⟨b2, o2, hA2, -, t0, t1, t2⟩ := vls_cells (l := [a, b]) HVL3.out (k := 1) (by simp)
        subst hA1
        injection hA2 with hA2
        injection hA2 with e1 e2
        subst e1 e2
        have hbX : b1 ≠ X + 1 := hrb b1 o1 cr rfl
        simp only [List.getD_cons_zero, List.getD_cons_succ, Nat.zero_mul, Nat.one_mul, Nat.add_zero] at u0 u1 u2 t0 t1 t2
        clear hrb
        have HCALL : Hid (∀ W : World, Below w.heap.size w W → Calls Tryz.prog 144 #[.int .i64 a.num, .int .i64 b.num, .pointer (some ⟨g, 0, none⟩)] W fun e w' => e = .returned (.agg #[.int .i64 rv.kind, .int .i64 rv.num, .string rv.text]) ∧ Below W.heap.size W w') := Lib.hid (fun W hW => by
          have h := op5_any a.num b.num g W (cell_stays hW HG.out)
          have e : numV (IntKind.i64.wrap (a.num + b.num)) = rv := hrv
          rw [e] at h
          exact h)
        have hw0 : IntKind.i64.wrap 1 = 1 := wrap_nat (n := 1) (by omega)
        have hXB : X ≠ X + 1 := by omega
        have mkS : ∀ W, w3.grownBy W (some (X + 1)) → VBox W (X + 1) → (fun W => w3.grownBy W (some (X + 1)) ∧ VBox W (X + 1) ∧ W.cell? ⟨E, 7, none⟩ = some (.map (some m)) ∧ W.cell? ⟨X, 0, none⟩ = some (.int .i64 5) ∧ W.cell? ⟨b1, o1 + 1, none⟩ = some (.int .i64 a.num) ∧ W.cell? ⟨b1, o1 + 3 + 1, none⟩ = some (.int .i64 b.num)) W := fun W hg hv => ⟨hg, hv, cell_grown hg r7 (fun e => hEB (by injection e with e; exact e.symm)), cell_grown hg q0 (fun e => hXB (by injection e with e; exact e.symm)), cell_grown hg u1 (fun e => hbX (by injection e with e; exact e.symm)), cell_grown hg t1 (fun e => hbX (by injection e with e; exact e.symm))⟩
        go_wp2_with fail
        refine wp_region_noPanic ?_
        refine wp_region_held_drew (S := fun W => w3.grownBy W (some (X + 1)) ∧ VBox W (X + 1) ∧ W.cell? ⟨E, 7, none⟩ = some (.map (some m)) ∧ W.cell? ⟨X, 0, none⟩ = some (.int .i64 5) ∧ W.cell? ⟨b1, o1 + 1, none⟩ = some (.int .i64 a.num) ∧ W.cell? ⟨b1, o1 + 3 + 1, none⟩ = some (.int .i64 b.num)) (by kernel_rfl) (mkS _ (below_grown (Below.refl _ _).drew _) (HB3v.out.stays (Below.refl _ _).drew)) (fun hHeld => ?_)
        generalize w3.drew = wD at hHeld ⊢
        focus (refine wpAnyH_take2 (i := 0) (fuel := 18) (L := (true :: false :: false :: false :: false :: false :: false :: false :: false :: false :: false :: false :: false :: false :: false :: false :: false :: false :: false :: []).toArray) (v := ?_) rfl rfl (by kernel_rfl) (by kernel_rfl) (by kernel_rfl) (by kernel_rfl) (fun _ _ _ h => h) (by kernel_rfl) ?_ (by assumption) ?_; rotate_left 1; (focus (intro wS hSw; (try dsimp only at hSw); go_simp <;> with_reducible rfl)); simp only [List.set_cons_zero, List.set_cons_succ])
        focus (refine wpAnyH_take2 (i := 1) (fuel := 17) (L := (true :: true :: false :: false :: false :: false :: false :: false :: false :: false :: false :: false :: false :: false :: false :: false :: false :: false :: false :: []).toArray) (v := ?_) rfl rfl (by kernel_rfl) (by kernel_rfl) (by kernel_rfl) (by kernel_rfl) (fun _ _ _ h => h) (by kernel_rfl) ?_ (by assumption) ?_; rotate_left 1; (focus (intro wS hSw; (try dsimp only at hSw); go_simp <;> with_reducible rfl)); simp only [List.set_cons_zero, List.set_cons_succ])
        focus (refine wpAnyH_take2 (i := 2) (fuel := 16) (L := (true :: true :: true :: false :: false :: false :: false :: false :: false :: false :: false :: false :: false :: false :: false :: false :: false :: false :: false :: []).toArray) (v := ?_) rfl rfl (by kernel_rfl) (by kernel_rfl) (by kernel_rfl) (by kernel_rfl) (fun _ _ _ h => h) (by kernel_rfl) ?_ (by assumption) ?_; rotate_left 1; (focus (intro wS hSw; (try dsimp only at hSw); go_simp <;> with_reducible rfl)); simp only [List.set_cons_zero, List.set_cons_succ])
        focus (refine wpAnyH_take2 (i := 3) (fuel := 15) (L := (true :: true :: true :: true :: false :: false :: false :: false :: false :: false :: false :: false :: false :: false :: false :: false :: false :: false :: false :: []).toArray) (v := ?_) rfl rfl (by kernel_rfl) (by kernel_rfl) (by kernel_rfl) (by kernel_rfl) (fun _ _ _ h => h) (by kernel_rfl) ?_ (by assumption) ?_; rotate_left 1; (focus (intro wS hSw; (try dsimp only at hSw); go_simp <;> with_reducible rfl)); simp only [List.set_cons_zero, List.set_cons_succ])
        focus (refine wpAnyH_take2 (i := 5) (fuel := 14) (L := (true :: true :: true :: true :: false :: true :: false :: false :: false :: false :: false :: false :: false :: false :: false :: false :: false :: false :: false :: []).toArray) (v := ?_) rfl rfl (by kernel_rfl) (by kernel_rfl) (by kernel_rfl) (by kernel_rfl) (fun _ _ _ h => h) (by kernel_rfl) ?_ (by assumption) ?_; rotate_left 1; (focus (intro wS hSw; (try dsimp only at hSw); go_simp <;> with_reducible rfl)); simp only [List.set_cons_zero, List.set_cons_succ])
        focus (refine wpAnyH_take2 (i := 6) (fuel := 13) (L := (true :: true :: true :: true :: false :: true :: true :: false :: false :: false :: false :: false :: false :: false :: false :: false :: false :: false :: false :: []).toArray) (v := ?_) rfl rfl (by kernel_rfl) (by kernel_rfl) (by kernel_rfl) (by kernel_rfl) (fun _ _ _ h => h) (by kernel_rfl) ?_ (by assumption) ?_; rotate_left 1; (focus (intro wS hSw; (try dsimp only at hSw); go_simp <;> with_reducible rfl)); simp only [List.set_cons_zero, List.set_cons_succ])
        focus (refine wpAnyH_take2 (i := 7) (fuel := 12) (L := (true :: true :: true :: true :: false :: true :: true :: true :: false :: false :: false :: false :: false :: false :: false :: false :: false :: false :: false :: []).toArray) (v := ?_) rfl rfl (by kernel_rfl) (by kernel_rfl) (by kernel_rfl) (by kernel_rfl) (fun _ _ _ h => h) (by kernel_rfl) ?_ (by assumption) ?_; rotate_left 1; (focus (intro wS hSw; (try dsimp only at hSw); go_simp <;> with_reducible rfl)); simp only [List.set_cons_zero, List.set_cons_succ])
        focus (refine wpAnyH_take2 (i := 8) (fuel := 11) (L := (true :: true :: true :: true :: false :: true :: true :: true :: true :: false :: false :: false :: false :: false :: false :: false :: false :: false :: false :: []).toArray) (v := ?_) rfl rfl (by kernel_rfl) (by kernel_rfl) (by kernel_rfl) (by kernel_rfl) (fun _ _ _ h => h) (by kernel_rfl) ?_ (by assumption) ?_; rotate_left 1; (focus (intro wS hSw; (try dsimp only at hSw); go_simp <;> with_reducible rfl)); simp only [List.set_cons_zero, List.set_cons_succ])
        focus (refine wpAnyH_take2 (i := 9) (fuel := 10) (L := (true :: true :: true :: true :: false :: true :: true :: true :: true :: true :: false :: false :: false :: false :: false :: false :: false :: false :: false :: []).toArray) (v := ?_) rfl rfl (by kernel_rfl) (by kernel_rfl) (by kernel_rfl) (by kernel_rfl) (fun _ _ _ h => h) (by kernel_rfl) ?_ (by assumption) ?_; rotate_left 1; (focus (intro wS hSw; (try dsimp only at hSw); go_simp <;> with_reducible rfl)); simp only [List.set_cons_zero, List.set_cons_succ])
        focus (refine wpAnyH_take2 (i := 10) (fuel := 9) (L := (true :: true :: true :: true :: false :: true :: true :: true :: true :: true :: true :: false :: false :: false :: false :: false :: false :: false :: false :: []).toArray) (v := ?_) rfl rfl (by kernel_rfl) (by kernel_rfl) (by kernel_rfl) (by kernel_rfl) (fun _ _ _ h => h) (by kernel_rfl) ?_ (by assumption) ?_; rotate_left 1; (focus (intro wS hSw; (try dsimp only at hSw); go_simp <;> with_reducible rfl)); simp only [List.set_cons_zero, List.set_cons_succ])
        focus (refine wpAnyH_take2 (i := 11) (fuel := 8) (L := (true :: true :: true :: true :: false :: true :: true :: true :: true :: true :: true :: true :: false :: false :: false :: false :: false :: false :: false :: []).toArray) (v := ?_) rfl rfl (by kernel_rfl) (by kernel_rfl) (by kernel_rfl) (by kernel_rfl) (fun _ _ _ h => h) (by kernel_rfl) ?_ (by assumption) ?_; rotate_left 1; (focus (intro wS hSw; (try dsimp only at hSw); go_simp <;> with_reducible rfl)); simp only [List.set_cons_zero, List.set_cons_succ])
        focus (refine wpAnyH_take2 (i := 12) (fuel := 7) (L := (true :: true :: true :: true :: false :: true :: true :: true :: true :: true :: true :: true :: true :: false :: false :: false :: false :: false :: false :: []).toArray) (v := ?_) rfl rfl (by kernel_rfl) (by kernel_rfl) (by kernel_rfl) (by kernel_rfl) (fun _ _ _ h => h) (by kernel_rfl) ?_ (by assumption) ?_; rotate_left 1; (focus (intro wS hSw; (try dsimp only at hSw); go_simp <;> with_reducible rfl)); simp only [List.set_cons_zero, List.set_cons_succ])
        focus (refine wpAnyH_take2 (i := 13) (fuel := 6) (L := (true :: true :: true :: true :: false :: true :: true :: true :: true :: true :: true :: true :: true :: true :: false :: false :: false :: false :: false :: []).toArray) (v := ?_) rfl rfl (by kernel_rfl) (by kernel_rfl) (by kernel_rfl) (by kernel_rfl) (fun _ _ _ h => h) (by kernel_rfl) ?_ (by assumption) ?_; rotate_left 1; (focus (intro wS hSw; (try dsimp only at hSw); go_simp <;> with_reducible rfl)); simp only [List.set_cons_zero, List.set_cons_succ])
        focus (refine wpAnyH_take2 (i := 14) (fuel := 5) (L := (true :: true :: true :: true :: false :: true :: true :: true :: true :: true :: true :: true :: true :: true :: true :: false :: false :: false :: false :: []).toArray) (v := ?_) rfl rfl (by kernel_rfl) (by kernel_rfl) (by kernel_rfl) (by kernel_rfl) (fun _ _ _ h => h) (by kernel_rfl) ?_ (by assumption) ?_; rotate_left 1; (focus (intro wS hSw; (try dsimp only at hSw); go_simp <;> with_reducible rfl)); simp only [List.set_cons_zero, List.set_cons_succ])
        focus (refine wpAnyH_take2 (i := 15) (fuel := 4) (L := (true :: true :: true :: true :: false :: true :: true :: true :: true :: true :: true :: true :: true :: true :: true :: true :: false :: false :: false :: []).toArray) (v := ?_) rfl rfl (by kernel_rfl) (by kernel_rfl) (by kernel_rfl) (by kernel_rfl) (fun _ _ _ h => h) (by kernel_rfl) ?_ (by assumption) ?_; rotate_left 1; (focus (intro wS hSw; (try dsimp only at hSw); go_simp <;> with_reducible rfl)); simp only [List.set_cons_zero, List.set_cons_succ])
        refine wpAnyH_next (i := 4) (fuel := 3) (L := (true :: true :: true :: true :: true :: true :: true :: true :: true :: true :: true :: true :: true :: true :: true :: true :: false :: false :: false :: []).toArray) rfl (by kernel_rfl) (by kernel_rfl) (by kernel_rfl) (fun K hK => ?_)
        focus (refine at_look _ (.tmp 69) (.tmp 71) (by rfl) m 5 _ _ _ _ (by rfl) (by rfl) (heap_stays (grown_bel HW3.out hHeld.1 hXw) HM.out) (by rfl) ?_)
        refine hK.out _ _ (hHeld) (fun hHeld => ?_)
        clear hK K
        refine wpAnyH_next (i := 16) (fuel := 2) (L := (true :: true :: true :: true :: true :: true :: true :: true :: true :: true :: true :: true :: true :: true :: true :: true :: true :: false :: false :: []).toArray) rfl (by kernel_rfl) (by kernel_rfl) (by kernel_rfl) (fun K hK => ?_)
        focus (go_simp; refine (HCALL.out _ (grown_bel HW3.out hHeld.1 hXw)).mono ?_; rintro e w4 ⟨rfl, hb4⟩)
        refine hK.out _ _ (mkS _ (grown_tr hHeld.1 (below_grown hb4 _)) (hHeld.2.1.stays hb4)) (fun hHeld => ?_)
        clear hK K
        refine wpAnyH_next (i := 17) (fuel := 1) (L := (true :: true :: true :: true :: true :: true :: true :: true :: true :: true :: true :: true :: true :: true :: true :: true :: true :: true :: false :: []).toArray) rfl (by kernel_rfl) (by kernel_rfl) (by kernel_rfl) (fun K hK => ?_)
        focus (obtain ⟨a0, b0, c0, z0, z1, z2, f0, f1, f2⟩ := hHeld.2.1.facts; go_simp)
        refine hK.out _ _ (mkS _ (grown_set3 hHeld.1 _ _ _) (hHeld.2.1.set3 _ _ _)) (fun hHeld => ?_)
        clear hK K
        focus (refine wpAnyH_take2 (i := 18) (fuel := 0) (L := (true :: true :: true :: true :: true :: true :: true :: true :: true :: true :: true :: true :: true :: true :: true :: true :: true :: true :: true :: []).toArray) (v := ?_) rfl rfl (by kernel_rfl) (by kernel_rfl) (by kernel_rfl) (by kernel_rfl) (fun _ _ _ h => h) (by kernel_rfl) ?_ (by assumption) ?_; rotate_left 1; (focus (intro wS hSw; (try dsimp only at hSw); go_simp <;> with_reducible rfl)); simp only [List.set_cons_zero, List.set_cons_succ])
        refine wpAnyH_done (by kernel_rfl) (NoPanic.normal ?_) _
        rotate_left 1
        have HF := Lib.hid (grown_bel HW3.out hHeld.1 hXw)
        go_wp2_with fail
        exact bodyPost_ret (v := .tuple #[.agg #[.int .i64 rv.kind, .int .i64 rv.num, .string rv.text], .int .i64 0]) (by simp [results, Tryz.results114, go_sem, cell_set_self, z0, z1, z2]) rfl ⟨rfl, HF.out⟩
      · obtain rfl : k = 2 := by have h := HAR.out; have h2 := HK.out; rw [if_neg (by decide)] at h; omega
        obtain ⟨a, b, rfl⟩ : ∃ a b, pre = [a, b] := by
          match pre, hpl with
          | [a, b], _ => exact ⟨a, b, rfl⟩
        obtain ⟨b1, o1, hA1, hb1l, u0, u1, u2⟩ := vls_cells (l := [a, b]) HVL3.out (k := 0) (by simp)
        obtain ⟨b2, o2, hA2, -, t0, t1, t2⟩ := vls_cells (l := [a, b]) HVL3.out (k := 1) (by simp)
        subst hA1
        injection hA2 with hA2
        injection hA2 with e1 e2
        subst e1 e2
        have hbX : b1 ≠ X + 1 := hrb b1 o1 cr rfl
        simp only [List.getD_cons_zero, List.getD_cons_succ, Nat.zero_mul, Nat.one_mul, Nat.add_zero] at u0 u1 u2 t0 t1 t2
        clear hrb
        have HCALL : Hid (∀ W : World, Below w.heap.size w W → Calls Tryz.prog 145 #[.int .i64 a.num, .int .i64 b.num, .pointer (some ⟨g, 0, none⟩)] W fun e w' => e = .returned (.agg #[.int .i64 rv.kind, .int .i64 rv.num, .string rv.text]) ∧ Below W.heap.size W w') := Lib.hid (fun W hW => by
          have h := op6_any a.num b.num g W (cell_stays hW HG.out)
          have e : numV (IntKind.i64.wrap (a.num - b.num)) = rv := hrv
          rw [e] at h
          exact h)
        have hw0 : IntKind.i64.wrap 1 = 1 := wrap_nat (n := 1) (by omega)
        have hXB : X ≠ X + 1 := by omega
        have mkS : ∀ W, w3.grownBy W (some (X + 1)) → VBox W (X + 1) → (fun W => w3.grownBy W (some (X + 1)) ∧ VBox W (X + 1) ∧ W.cell? ⟨E, 7, none⟩ = some (.map (some m)) ∧ W.cell? ⟨X, 0, none⟩ = some (.int .i64 6) ∧ W.cell? ⟨b1, o1 + 1, none⟩ = some (.int .i64 a.num) ∧ W.cell? ⟨b1, o1 + 3 + 1, none⟩ = some (.int .i64 b.num)) W := fun W hg hv => ⟨hg, hv, cell_grown hg r7 (fun e => hEB (by injection e with e; exact e.symm)), cell_grown hg q0 (fun e => hXB (by injection e with e; exact e.symm)), cell_grown hg u1 (fun e => hbX (by injection e with e; exact e.symm)), cell_grown hg t1 (fun e => hbX (by injection e with e; exact e.symm))⟩
        go_wp2_with fail
        refine wp_region_noPanic ?_
        refine wp_region_held_drew (S := fun W => w3.grownBy W (some (X + 1)) ∧ VBox W (X + 1) ∧ W.cell? ⟨E, 7, none⟩ = some (.map (some m)) ∧ W.cell? ⟨X, 0, none⟩ = some (.int .i64 6) ∧ W.cell? ⟨b1, o1 + 1, none⟩ = some (.int .i64 a.num) ∧ W.cell? ⟨b1, o1 + 3 + 1, none⟩ = some (.int .i64 b.num)) (by kernel_rfl) (mkS _ (below_grown (Below.refl _ _).drew _) (HB3v.out.stays (Below.refl _ _).drew)) (fun hHeld => ?_)
        generalize w3.drew = wD at hHeld ⊢
        focus (refine wpAnyH_take2 (i := 0) (fuel := 18) (L := (true :: false :: false :: false :: false :: false :: false :: false :: false :: false :: false :: false :: false :: false :: false :: false :: false :: false :: false :: []).toArray) (v := ?_) rfl rfl (by kernel_rfl) (by kernel_rfl) (by kernel_rfl) (by kernel_rfl) (fun _ _ _ h => h) (by kernel_rfl) ?_ (by assumption) ?_; rotate_left 1; (focus (intro wS hSw; (try dsimp only at hSw); go_simp <;> with_reducible rfl)); simp only [List.set_cons_zero, List.set_cons_succ])
        focus (refine wpAnyH_take2 (i := 1) (fuel := 17) (L := (true :: true :: false :: false :: false :: false :: false :: false :: false :: false :: false :: false :: false :: false :: false :: false :: false :: false :: false :: []).toArray) (v := ?_) rfl rfl (by kernel_rfl) (by kernel_rfl) (by kernel_rfl) (by kernel_rfl) (fun _ _ _ h => h) (by kernel_rfl) ?_ (by assumption) ?_; rotate_left 1; (focus (intro wS hSw; (try dsimp only at hSw); go_simp <;> with_reducible rfl)); simp only [List.set_cons_zero, List.set_cons_succ])
        focus (refine wpAnyH_take2 (i := 2) (fuel := 16) (L := (true :: true :: true :: false :: false :: false :: false :: false :: false :: false :: false :: false :: false :: false :: false :: false :: false :: false :: false :: []).toArray) (v := ?_) rfl rfl (by kernel_rfl) (by kernel_rfl) (by kernel_rfl) (by kernel_rfl) (fun _ _ _ h => h) (by kernel_rfl) ?_ (by assumption) ?_; rotate_left 1; (focus (intro wS hSw; (try dsimp only at hSw); go_simp <;> with_reducible rfl)); simp only [List.set_cons_zero, List.set_cons_succ])
        focus (refine wpAnyH_take2 (i := 3) (fuel := 15) (L := (true :: true :: true :: true :: false :: false :: false :: false :: false :: false :: false :: false :: false :: false :: false :: false :: false :: false :: false :: []).toArray) (v := ?_) rfl rfl (by kernel_rfl) (by kernel_rfl) (by kernel_rfl) (by kernel_rfl) (fun _ _ _ h => h) (by kernel_rfl) ?_ (by assumption) ?_; rotate_left 1; (focus (intro wS hSw; (try dsimp only at hSw); go_simp <;> with_reducible rfl)); simp only [List.set_cons_zero, List.set_cons_succ])
        focus (refine wpAnyH_take2 (i := 5) (fuel := 14) (L := (true :: true :: true :: true :: false :: true :: false :: false :: false :: false :: false :: false :: false :: false :: false :: false :: false :: false :: false :: []).toArray) (v := ?_) rfl rfl (by kernel_rfl) (by kernel_rfl) (by kernel_rfl) (by kernel_rfl) (fun _ _ _ h => h) (by kernel_rfl) ?_ (by assumption) ?_; rotate_left 1; (focus (intro wS hSw; (try dsimp only at hSw); go_simp <;> with_reducible rfl)); simp only [List.set_cons_zero, List.set_cons_succ])
        focus (refine wpAnyH_take2 (i := 6) (fuel := 13) (L := (true :: true :: true :: true :: false :: true :: true :: false :: false :: false :: false :: false :: false :: false :: false :: false :: false :: false :: false :: []).toArray) (v := ?_) rfl rfl (by kernel_rfl) (by kernel_rfl) (by kernel_rfl) (by kernel_rfl) (fun _ _ _ h => h) (by kernel_rfl) ?_ (by assumption) ?_; rotate_left 1; (focus (intro wS hSw; (try dsimp only at hSw); go_simp <;> with_reducible rfl)); simp only [List.set_cons_zero, List.set_cons_succ])
        focus (refine wpAnyH_take2 (i := 7) (fuel := 12) (L := (true :: true :: true :: true :: false :: true :: true :: true :: false :: false :: false :: false :: false :: false :: false :: false :: false :: false :: false :: []).toArray) (v := ?_) rfl rfl (by kernel_rfl) (by kernel_rfl) (by kernel_rfl) (by kernel_rfl) (fun _ _ _ h => h) (by kernel_rfl) ?_ (by assumption) ?_; rotate_left 1; (focus (intro wS hSw; (try dsimp only at hSw); go_simp <;> with_reducible rfl)); simp only [List.set_cons_zero, List.set_cons_succ])
        focus (refine wpAnyH_take2 (i := 8) (fuel := 11) (L := (true :: true :: true :: true :: false :: true :: true :: true :: true :: false :: false :: false :: false :: false :: false :: false :: false :: false :: false :: []).toArray) (v := ?_) rfl rfl (by kernel_rfl) (by kernel_rfl) (by kernel_rfl) (by kernel_rfl) (fun _ _ _ h => h) (by kernel_rfl) ?_ (by assumption) ?_; rotate_left 1; (focus (intro wS hSw; (try dsimp only at hSw); go_simp <;> with_reducible rfl)); simp only [List.set_cons_zero, List.set_cons_succ])
        focus (refine wpAnyH_take2 (i := 9) (fuel := 10) (L := (true :: true :: true :: true :: false :: true :: true :: true :: true :: true :: false :: false :: false :: false :: false :: false :: false :: false :: false :: []).toArray) (v := ?_) rfl rfl (by kernel_rfl) (by kernel_rfl) (by kernel_rfl) (by kernel_rfl) (fun _ _ _ h => h) (by kernel_rfl) ?_ (by assumption) ?_; rotate_left 1; (focus (intro wS hSw; (try dsimp only at hSw); go_simp <;> with_reducible rfl)); simp only [List.set_cons_zero, List.set_cons_succ])
        focus (refine wpAnyH_take2 (i := 10) (fuel := 9) (L := (true :: true :: true :: true :: false :: true :: true :: true :: true :: true :: true :: false :: false :: false :: false :: false :: false :: false :: false :: []).toArray) (v := ?_) rfl rfl (by kernel_rfl) (by kernel_rfl) (by kernel_rfl) (by kernel_rfl) (fun _ _ _ h => h) (by kernel_rfl) ?_ (by assumption) ?_; rotate_left 1; (focus (intro wS hSw; (try dsimp only at hSw); go_simp <;> with_reducible rfl)); simp only [List.set_cons_zero, List.set_cons_succ])
        focus (refine wpAnyH_take2 (i := 11) (fuel := 8) (L := (true :: true :: true :: true :: false :: true :: true :: true :: true :: true :: true :: true :: false :: false :: false :: false :: false :: false :: false :: []).toArray) (v := ?_) rfl rfl (by kernel_rfl) (by kernel_rfl) (by kernel_rfl) (by kernel_rfl) (fun _ _ _ h => h) (by kernel_rfl) ?_ (by assumption) ?_; rotate_left 1; (focus (intro wS hSw; (try dsimp only at hSw); go_simp <;> with_reducible rfl)); simp only [List.set_cons_zero, List.set_cons_succ])
        focus (refine wpAnyH_take2 (i := 12) (fuel := 7) (L := (true :: true :: true :: true :: false :: true :: true :: true :: true :: true :: true :: true :: true :: false :: false :: false :: false :: false :: false :: []).toArray) (v := ?_) rfl rfl (by kernel_rfl) (by kernel_rfl) (by kernel_rfl) (by kernel_rfl) (fun _ _ _ h => h) (by kernel_rfl) ?_ (by assumption) ?_; rotate_left 1; (focus (intro wS hSw; (try dsimp only at hSw); go_simp <;> with_reducible rfl)); simp only [List.set_cons_zero, List.set_cons_succ])
        focus (refine wpAnyH_take2 (i := 13) (fuel := 6) (L := (true :: true :: true :: true :: false :: true :: true :: true :: true :: true :: true :: true :: true :: true :: false :: false :: false :: false :: false :: []).toArray) (v := ?_) rfl rfl (by kernel_rfl) (by kernel_rfl) (by kernel_rfl) (by kernel_rfl) (fun _ _ _ h => h) (by kernel_rfl) ?_ (by assumption) ?_; rotate_left 1; (focus (intro wS hSw; (try dsimp only at hSw); go_simp <;> with_reducible rfl)); simp only [List.set_cons_zero, List.set_cons_succ])
        focus (refine wpAnyH_take2 (i := 14) (fuel := 5) (L := (true :: true :: true :: true :: false :: true :: true :: true :: true :: true :: true :: true :: true :: true :: true :: false :: false :: false :: false :: []).toArray) (v := ?_) rfl rfl (by kernel_rfl) (by kernel_rfl) (by kernel_rfl) (by kernel_rfl) (fun _ _ _ h => h) (by kernel_rfl) ?_ (by assumption) ?_; rotate_left 1; (focus (intro wS hSw; (try dsimp only at hSw); go_simp <;> with_reducible rfl)); simp only [List.set_cons_zero, List.set_cons_succ])
        focus (refine wpAnyH_take2 (i := 15) (fuel := 4) (L := (true :: true :: true :: true :: false :: true :: true :: true :: true :: true :: true :: true :: true :: true :: true :: true :: false :: false :: false :: []).toArray) (v := ?_) rfl rfl (by kernel_rfl) (by kernel_rfl) (by kernel_rfl) (by kernel_rfl) (fun _ _ _ h => h) (by kernel_rfl) ?_ (by assumption) ?_; rotate_left 1; (focus (intro wS hSw; (try dsimp only at hSw); go_simp <;> with_reducible rfl)); simp only [List.set_cons_zero, List.set_cons_succ])
        refine wpAnyH_next (i := 4) (fuel := 3) (L := (true :: true :: true :: true :: true :: true :: true :: true :: true :: true :: true :: true :: true :: true :: true :: true :: false :: false :: false :: []).toArray) rfl (by kernel_rfl) (by kernel_rfl) (by kernel_rfl) (fun K hK => ?_)
        focus (refine at_look _ (.tmp 69) (.tmp 71) (by rfl) m 6 _ _ _ _ (by rfl) (by rfl) (heap_stays (grown_bel HW3.out hHeld.1 hXw) HM.out) (by rfl) ?_)
        refine hK.out _ _ (hHeld) (fun hHeld => ?_)
        clear hK K
        refine wpAnyH_next (i := 16) (fuel := 2) (L := (true :: true :: true :: true :: true :: true :: true :: true :: true :: true :: true :: true :: true :: true :: true :: true :: true :: false :: false :: []).toArray) rfl (by kernel_rfl) (by kernel_rfl) (by kernel_rfl) (fun K hK => ?_)
        focus (go_simp; refine (HCALL.out _ (grown_bel HW3.out hHeld.1 hXw)).mono ?_; rintro e w4 ⟨rfl, hb4⟩)
        refine hK.out _ _ (mkS _ (grown_tr hHeld.1 (below_grown hb4 _)) (hHeld.2.1.stays hb4)) (fun hHeld => ?_)
        clear hK K
        refine wpAnyH_next (i := 17) (fuel := 1) (L := (true :: true :: true :: true :: true :: true :: true :: true :: true :: true :: true :: true :: true :: true :: true :: true :: true :: true :: false :: []).toArray) rfl (by kernel_rfl) (by kernel_rfl) (by kernel_rfl) (fun K hK => ?_)
        focus (obtain ⟨a0, b0, c0, z0, z1, z2, f0, f1, f2⟩ := hHeld.2.1.facts; go_simp)
        refine hK.out _ _ (mkS _ (grown_set3 hHeld.1 _ _ _) (hHeld.2.1.set3 _ _ _)) (fun hHeld => ?_)
        clear hK K
        focus (refine wpAnyH_take2 (i := 18) (fuel := 0) (L := (true :: true :: true :: true :: true :: true :: true :: true :: true :: true :: true :: true :: true :: true :: true :: true :: true :: true :: true :: []).toArray) (v := ?_) rfl rfl (by kernel_rfl) (by kernel_rfl) (by kernel_rfl) (by kernel_rfl) (fun _ _ _ h => h) (by kernel_rfl) ?_ (by assumption) ?_; rotate_left 1; (focus (intro wS hSw; (try dsimp only at hSw); go_simp <;> with_reducible rfl)); simp only [List.set_cons_zero, List.set_cons_succ])
        refine wpAnyH_done (by kernel_rfl) (NoPanic.normal ?_) _
        rotate_left 1
        have HF := Lib.hid (grown_bel HW3.out hHeld.1 hXw)
        go_wp2_with fail
        exact bodyPost_ret (v := .tuple #[.agg #[.int .i64 rv.kind, .int .i64 rv.num, .string rv.text], .int .i64 0]) (by simp [results, Tryz.results114, go_sem, cell_set_self, z0, z1, z2]) rfl ⟨rfl, HF.out⟩
      · obtain rfl : k = 2 := by have h := HAR.out; have h2 := HK.out; rw [if_neg (by decide)] at h; omega
        obtain ⟨a, b, rfl⟩ : ∃ a b, pre = [a, b] := by
          match pre, hpl with
          | [a, b], _ => exact ⟨a, b, rfl⟩
        obtain ⟨b1, o1, hA1, hb1l, u0, u1, u2⟩ := vls_cells (l := [a, b]) HVL3.out (k := 0) (by simp)
        obtain ⟨b2, o2, hA2, -, t0, t1, t2⟩ := vls_cells (l := [a, b]) HVL3.out (k := 1) (by simp)
        subst hA1
        injection hA2 with hA2
        injection hA2 with e1 e2
        subst e1 e2
        have hbX : b1 ≠ X + 1 := hrb b1 o1 cr rfl
        simp only [List.getD_cons_zero, List.getD_cons_succ, Nat.zero_mul, Nat.one_mul, Nat.add_zero] at u0 u1 u2 t0 t1 t2
        clear hrb
        have HCALL : Hid (∀ W : World, Below w.heap.size w W → Calls Tryz.prog 146 #[.int .i64 a.num, .int .i64 b.num] W fun e w' => e = .returned (.agg #[.int .i64 rv.kind, .int .i64 rv.num, .string rv.text]) ∧ Below W.heap.size W w') := Lib.hid (fun W hW => by
          have h := op7_any a.num b.num W
          have e : flagV (decide (a.num < b.num)) = rv := hrv
          rw [e] at h
          exact h)
        have hw0 : IntKind.i64.wrap 1 = 1 := wrap_nat (n := 1) (by omega)
        have hXB : X ≠ X + 1 := by omega
        have mkS : ∀ W, w3.grownBy W (some (X + 1)) → VBox W (X + 1) → (fun W => w3.grownBy W (some (X + 1)) ∧ VBox W (X + 1) ∧ W.cell? ⟨E, 7, none⟩ = some (.map (some m)) ∧ W.cell? ⟨X, 0, none⟩ = some (.int .i64 7) ∧ W.cell? ⟨b1, o1 + 1, none⟩ = some (.int .i64 a.num) ∧ W.cell? ⟨b1, o1 + 3 + 1, none⟩ = some (.int .i64 b.num)) W := fun W hg hv => ⟨hg, hv, cell_grown hg r7 (fun e => hEB (by injection e with e; exact e.symm)), cell_grown hg q0 (fun e => hXB (by injection e with e; exact e.symm)), cell_grown hg u1 (fun e => hbX (by injection e with e; exact e.symm)), cell_grown hg t1 (fun e => hbX (by injection e with e; exact e.symm))⟩
        go_wp2_with fail
        refine wp_region_noPanic ?_
        refine wp_region_held_drew (S := fun W => w3.grownBy W (some (X + 1)) ∧ VBox W (X + 1) ∧ W.cell? ⟨E, 7, none⟩ = some (.map (some m)) ∧ W.cell? ⟨X, 0, none⟩ = some (.int .i64 7) ∧ W.cell? ⟨b1, o1 + 1, none⟩ = some (.int .i64 a.num) ∧ W.cell? ⟨b1, o1 + 3 + 1, none⟩ = some (.int .i64 b.num)) (by kernel_rfl) (mkS _ (below_grown (Below.refl _ _).drew _) (HB3v.out.stays (Below.refl _ _).drew)) (fun hHeld => ?_)
        generalize w3.drew = wD at hHeld ⊢
        focus (refine wpAnyH_take2 (i := 0) (fuel := 18) (L := (true :: false :: false :: false :: false :: false :: false :: false :: false :: false :: false :: false :: false :: false :: false :: false :: false :: false :: false :: []).toArray) (v := ?_) rfl rfl (by kernel_rfl) (by kernel_rfl) (by kernel_rfl) (by kernel_rfl) (fun _ _ _ h => h) (by kernel_rfl) ?_ (by assumption) ?_; rotate_left 1; (focus (intro wS hSw; (try dsimp only at hSw); go_simp <;> with_reducible rfl)); simp only [List.set_cons_zero, List.set_cons_succ])
        focus (refine wpAnyH_take2 (i := 1) (fuel := 17) (L := (true :: true :: false :: false :: false :: false :: false :: false :: false :: false :: false :: false :: false :: false :: false :: false :: false :: false :: false :: []).toArray) (v := ?_) rfl rfl (by kernel_rfl) (by kernel_rfl) (by kernel_rfl) (by kernel_rfl) (fun _ _ _ h => h) (by kernel_rfl) ?_ (by assumption) ?_; rotate_left 1; (focus (intro wS hSw; (try dsimp only at hSw); go_simp <;> with_reducible rfl)); simp only [List.set_cons_zero, List.set_cons_succ])
        focus (refine wpAnyH_take2 (i := 2) (fuel := 16) (L := (true :: true :: true :: false :: false :: false :: false :: false :: false :: false :: false :: false :: false :: false :: false :: false :: false :: false :: false :: []).toArray) (v := ?_) rfl rfl (by kernel_rfl) (by kernel_rfl) (by kernel_rfl) (by kernel_rfl) (fun _ _ _ h => h) (by kernel_rfl) ?_ (by assumption) ?_; rotate_left 1; (focus (intro wS hSw; (try dsimp only at hSw); go_simp <;> with_reducible rfl)); simp only [List.set_cons_zero, List.set_cons_succ])
        focus (refine wpAnyH_take2 (i := 3) (fuel := 15) (L := (true :: true :: true :: true :: false :: false :: false :: false :: false :: false :: false :: false :: false :: false :: false :: false :: false :: false :: false :: []).toArray) (v := ?_) rfl rfl (by kernel_rfl) (by kernel_rfl) (by kernel_rfl) (by kernel_rfl) (fun _ _ _ h => h) (by kernel_rfl) ?_ (by assumption) ?_; rotate_left 1; (focus (intro wS hSw; (try dsimp only at hSw); go_simp <;> with_reducible rfl)); simp only [List.set_cons_zero, List.set_cons_succ])
        focus (refine wpAnyH_take2 (i := 5) (fuel := 14) (L := (true :: true :: true :: true :: false :: true :: false :: false :: false :: false :: false :: false :: false :: false :: false :: false :: false :: false :: false :: []).toArray) (v := ?_) rfl rfl (by kernel_rfl) (by kernel_rfl) (by kernel_rfl) (by kernel_rfl) (fun _ _ _ h => h) (by kernel_rfl) ?_ (by assumption) ?_; rotate_left 1; (focus (intro wS hSw; (try dsimp only at hSw); go_simp <;> with_reducible rfl)); simp only [List.set_cons_zero, List.set_cons_succ])
        focus (refine wpAnyH_take2 (i := 6) (fuel := 13) (L := (true :: true :: true :: true :: false :: true :: true :: false :: false :: false :: false :: false :: false :: false :: false :: false :: false :: false :: false :: []).toArray) (v := ?_) rfl rfl (by kernel_rfl) (by kernel_rfl) (by kernel_rfl) (by kernel_rfl) (fun _ _ _ h => h) (by kernel_rfl) ?_ (by assumption) ?_; rotate_left 1; (focus (intro wS hSw; (try dsimp only at hSw); go_simp <;> with_reducible rfl)); simp only [List.set_cons_zero, List.set_cons_succ])
        focus (refine wpAnyH_take2 (i := 7) (fuel := 12) (L := (true :: true :: true :: true :: false :: true :: true :: true :: false :: false :: false :: false :: false :: false :: false :: false :: false :: false :: false :: []).toArray) (v := ?_) rfl rfl (by kernel_rfl) (by kernel_rfl) (by kernel_rfl) (by kernel_rfl) (fun _ _ _ h => h) (by kernel_rfl) ?_ (by assumption) ?_; rotate_left 1; (focus (intro wS hSw; (try dsimp only at hSw); go_simp <;> with_reducible rfl)); simp only [List.set_cons_zero, List.set_cons_succ])
        focus (refine wpAnyH_take2 (i := 8) (fuel := 11) (L := (true :: true :: true :: true :: false :: true :: true :: true :: true :: false :: false :: false :: false :: false :: false :: false :: false :: false :: false :: []).toArray) (v := ?_) rfl rfl (by kernel_rfl) (by kernel_rfl) (by kernel_rfl) (by kernel_rfl) (fun _ _ _ h => h) (by kernel_rfl) ?_ (by assumption) ?_; rotate_left 1; (focus (intro wS hSw; (try dsimp only at hSw); go_simp <;> with_reducible rfl)); simp only [List.set_cons_zero, List.set_cons_succ])
        focus (refine wpAnyH_take2 (i := 9) (fuel := 10) (L := (true :: true :: true :: true :: false :: true :: true :: true :: true :: true :: false :: false :: false :: false :: false :: false :: false :: false :: false :: []).toArray) (v := ?_) rfl rfl (by kernel_rfl) (by kernel_rfl) (by kernel_rfl) (by kernel_rfl) (fun _ _ _ h => h) (by kernel_rfl) ?_ (by assumption) ?_; rotate_left 1; (focus (intro wS hSw; (try dsimp only at hSw); go_simp <;> with_reducible rfl)); simp only [List.set_cons_zero, List.set_cons_succ])
        focus (refine wpAnyH_take2 (i := 10) (fuel := 9) (L := (true :: true :: true :: true :: false :: true :: true :: true :: true :: true :: true :: false :: false :: false :: false :: false :: false :: false :: false :: []).toArray) (v := ?_) rfl rfl (by kernel_rfl) (by kernel_rfl) (by kernel_rfl) (by kernel_rfl) (fun _ _ _ h => h) (by kernel_rfl) ?_ (by assumption) ?_; rotate_left 1; (focus (intro wS hSw; (try dsimp only at hSw); go_simp <;> with_reducible rfl)); simp only [List.set_cons_zero, List.set_cons_succ])
        focus (refine wpAnyH_take2 (i := 11) (fuel := 8) (L := (true :: true :: true :: true :: false :: true :: true :: true :: true :: true :: true :: true :: false :: false :: false :: false :: false :: false :: false :: []).toArray) (v := ?_) rfl rfl (by kernel_rfl) (by kernel_rfl) (by kernel_rfl) (by kernel_rfl) (fun _ _ _ h => h) (by kernel_rfl) ?_ (by assumption) ?_; rotate_left 1; (focus (intro wS hSw; (try dsimp only at hSw); go_simp <;> with_reducible rfl)); simp only [List.set_cons_zero, List.set_cons_succ])
        focus (refine wpAnyH_take2 (i := 12) (fuel := 7) (L := (true :: true :: true :: true :: false :: true :: true :: true :: true :: true :: true :: true :: true :: false :: false :: false :: false :: false :: false :: []).toArray) (v := ?_) rfl rfl (by kernel_rfl) (by kernel_rfl) (by kernel_rfl) (by kernel_rfl) (fun _ _ _ h => h) (by kernel_rfl) ?_ (by assumption) ?_; rotate_left 1; (focus (intro wS hSw; (try dsimp only at hSw); go_simp <;> with_reducible rfl)); simp only [List.set_cons_zero, List.set_cons_succ])
        focus (refine wpAnyH_take2 (i := 13) (fuel := 6) (L := (true :: true :: true :: true :: false :: true :: true :: true :: true :: true :: true :: true :: true :: true :: false :: false :: false :: false :: false :: []).toArray) (v := ?_) rfl rfl (by kernel_rfl) (by kernel_rfl) (by kernel_rfl) (by kernel_rfl) (fun _ _ _ h => h) (by kernel_rfl) ?_ (by assumption) ?_; rotate_left 1; (focus (intro wS hSw; (try dsimp only at hSw); go_simp <;> with_reducible rfl)); simp only [List.set_cons_zero, List.set_cons_succ])
        focus (refine wpAnyH_take2 (i := 14) (fuel := 5) (L := (true :: true :: true :: true :: false :: true :: true :: true :: true :: true :: true :: true :: true :: true :: true :: false :: false :: false :: false :: []).toArray) (v := ?_) rfl rfl (by kernel_rfl) (by kernel_rfl) (by kernel_rfl) (by kernel_rfl) (fun _ _ _ h => h) (by kernel_rfl) ?_ (by assumption) ?_; rotate_left 1; (focus (intro wS hSw; (try dsimp only at hSw); go_simp <;> with_reducible rfl)); simp only [List.set_cons_zero, List.set_cons_succ])
        focus (refine wpAnyH_take2 (i := 15) (fuel := 4) (L := (true :: true :: true :: true :: false :: true :: true :: true :: true :: true :: true :: true :: true :: true :: true :: true :: false :: false :: false :: []).toArray) (v := ?_) rfl rfl (by kernel_rfl) (by kernel_rfl) (by kernel_rfl) (by kernel_rfl) (fun _ _ _ h => h) (by kernel_rfl) ?_ (by assumption) ?_; rotate_left 1; (focus (intro wS hSw; (try dsimp only at hSw); go_simp <;> with_reducible rfl)); simp only [List.set_cons_zero, List.set_cons_succ])
        refine wpAnyH_next (i := 4) (fuel := 3) (L := (true :: true :: true :: true :: true :: true :: true :: true :: true :: true :: true :: true :: true :: true :: true :: true :: false :: false :: false :: []).toArray) rfl (by kernel_rfl) (by kernel_rfl) (by kernel_rfl) (fun K hK => ?_)
        focus (refine at_look _ (.tmp 69) (.tmp 71) (by rfl) m 7 _ _ _ _ (by rfl) (by rfl) (heap_stays (grown_bel HW3.out hHeld.1 hXw) HM.out) (by rfl) ?_)
        refine hK.out _ _ (hHeld) (fun hHeld => ?_)
        clear hK K
        refine wpAnyH_next (i := 16) (fuel := 2) (L := (true :: true :: true :: true :: true :: true :: true :: true :: true :: true :: true :: true :: true :: true :: true :: true :: true :: false :: false :: []).toArray) rfl (by kernel_rfl) (by kernel_rfl) (by kernel_rfl) (fun K hK => ?_)
        focus (go_simp; refine (HCALL.out _ (grown_bel HW3.out hHeld.1 hXw)).mono ?_; rintro e w4 ⟨rfl, hb4⟩)
        refine hK.out _ _ (mkS _ (grown_tr hHeld.1 (below_grown hb4 _)) (hHeld.2.1.stays hb4)) (fun hHeld => ?_)
        clear hK K
        refine wpAnyH_next (i := 17) (fuel := 1) (L := (true :: true :: true :: true :: true :: true :: true :: true :: true :: true :: true :: true :: true :: true :: true :: true :: true :: true :: false :: []).toArray) rfl (by kernel_rfl) (by kernel_rfl) (by kernel_rfl) (fun K hK => ?_)
        focus (obtain ⟨a0, b0, c0, z0, z1, z2, f0, f1, f2⟩ := hHeld.2.1.facts; go_simp)
        refine hK.out _ _ (mkS _ (grown_set3 hHeld.1 _ _ _) (hHeld.2.1.set3 _ _ _)) (fun hHeld => ?_)
        clear hK K
        focus (refine wpAnyH_take2 (i := 18) (fuel := 0) (L := (true :: true :: true :: true :: true :: true :: true :: true :: true :: true :: true :: true :: true :: true :: true :: true :: true :: true :: true :: []).toArray) (v := ?_) rfl rfl (by kernel_rfl) (by kernel_rfl) (by kernel_rfl) (by kernel_rfl) (fun _ _ _ h => h) (by kernel_rfl) ?_ (by assumption) ?_; rotate_left 1; (focus (intro wS hSw; (try dsimp only at hSw); go_simp <;> with_reducible rfl)); simp only [List.set_cons_zero, List.set_cons_succ])
        refine wpAnyH_done (by kernel_rfl) (NoPanic.normal ?_) _
        rotate_left 1
        have HF := Lib.hid (grown_bel HW3.out hHeld.1 hXw)
        go_wp2_with fail
        exact bodyPost_ret (v := .tuple #[.agg #[.int .i64 rv.kind, .int .i64 rv.num, .string rv.text], .int .i64 0]) (by simp [results, Tryz.results114, go_sem, cell_set_self, z0, z1, z2]) rfl ⟨rfl, HF.out⟩
      · obtain rfl : k = 2 := by have h := HAR.out; have h2 := HK.out; rw [if_neg (by decide)] at h; omega
        obtain ⟨a, b, rfl⟩ : ∃ a b, pre = [a, b] := by
          match pre, hpl with
          | [a, b], _ => exact ⟨a, b, rfl⟩
        obtain ⟨b1, o1, hA1, hb1l, u0, u1, u2⟩ := vls_cells (l := [a, b]) HVL3.out (k := 0) (by simp)
        obtain ⟨b2, o2, hA2, -, t0, t1, t2⟩ := vls_cells (l := [a, b]) HVL3.out (k := 1) (by simp)
        subst hA1
        injection hA2 with hA2
        injection hA2 with e1 e2
        subst e1 e2
        have hbX : b1 ≠ X + 1 := hrb b1 o1 cr rfl
        simp only [List.getD_cons_zero, List.getD_cons_succ, Nat.zero_mul, Nat.one_mul, Nat.add_zero] at u0 u1 u2 t0 t1 t2
        clear hrb
        have HCALL : Hid (∀ W : World, Below w.heap.size w W → Calls Tryz.prog 148 #[.int .i64 a.num, .int .i64 b.num] W fun e w' => e = .returned (.agg #[.int .i64 rv.kind, .int .i64 rv.num, .string rv.text]) ∧ Below W.heap.size W w') := Lib.hid (fun W hW => by
          have h := op8_any a.num b.num W
          have e : flagV (decide (a.num ≤ b.num)) = rv := hrv
          rw [e] at h
          exact h)
        have hw0 : IntKind.i64.wrap 1 = 1 := wrap_nat (n := 1) (by omega)
        have hXB : X ≠ X + 1 := by omega
        have mkS : ∀ W, w3.grownBy W (some (X + 1)) → VBox W (X + 1) → (fun W => w3.grownBy W (some (X + 1)) ∧ VBox W (X + 1) ∧ W.cell? ⟨E, 7, none⟩ = some (.map (some m)) ∧ W.cell? ⟨X, 0, none⟩ = some (.int .i64 8) ∧ W.cell? ⟨b1, o1 + 1, none⟩ = some (.int .i64 a.num) ∧ W.cell? ⟨b1, o1 + 3 + 1, none⟩ = some (.int .i64 b.num)) W := fun W hg hv => ⟨hg, hv, cell_grown hg r7 (fun e => hEB (by injection e with e; exact e.symm)), cell_grown hg q0 (fun e => hXB (by injection e with e; exact e.symm)), cell_grown hg u1 (fun e => hbX (by injection e with e; exact e.symm)), cell_grown hg t1 (fun e => hbX (by injection e with e; exact e.symm))⟩
        go_wp2_with fail
        refine wp_region_noPanic ?_
        refine wp_region_held_drew (S := fun W => w3.grownBy W (some (X + 1)) ∧ VBox W (X + 1) ∧ W.cell? ⟨E, 7, none⟩ = some (.map (some m)) ∧ W.cell? ⟨X, 0, none⟩ = some (.int .i64 8) ∧ W.cell? ⟨b1, o1 + 1, none⟩ = some (.int .i64 a.num) ∧ W.cell? ⟨b1, o1 + 3 + 1, none⟩ = some (.int .i64 b.num)) (by kernel_rfl) (mkS _ (below_grown (Below.refl _ _).drew _) (HB3v.out.stays (Below.refl _ _).drew)) (fun hHeld => ?_)
        generalize w3.drew = wD at hHeld ⊢
        focus (refine wpAnyH_take2 (i := 0) (fuel := 18) (L := (true :: false :: false :: false :: false :: false :: false :: false :: false :: false :: false :: false :: false :: false :: false :: false :: false :: false :: false :: []).toArray) (v := ?_) rfl rfl (by kernel_rfl) (by kernel_rfl) (by kernel_rfl) (by kernel_rfl) (fun _ _ _ h => h) (by kernel_rfl) ?_ (by assumption) ?_; rotate_left 1; (focus (intro wS hSw; (try dsimp only at hSw); go_simp <;> with_reducible rfl)); simp only [List.set_cons_zero, List.set_cons_succ])
        focus (refine wpAnyH_take2 (i := 1) (fuel := 17) (L := (true :: true :: false :: false :: false :: false :: false :: false :: false :: false :: false :: false :: false :: false :: false :: false :: false :: false :: false :: []).toArray) (v := ?_) rfl rfl (by kernel_rfl) (by kernel_rfl) (by kernel_rfl) (by kernel_rfl) (fun _ _ _ h => h) (by kernel_rfl) ?_ (by assumption) ?_; rotate_left 1; (focus (intro wS hSw; (try dsimp only at hSw); go_simp <;> with_reducible rfl)); simp only [List.set_cons_zero, List.set_cons_succ])
        focus (refine wpAnyH_take2 (i := 2) (fuel := 16) (L := (true :: true :: true :: false :: false :: false :: false :: false :: false :: false :: false :: false :: false :: false :: false :: false :: false :: false :: false :: []).toArray) (v := ?_) rfl rfl (by kernel_rfl) (by kernel_rfl) (by kernel_rfl) (by kernel_rfl) (fun _ _ _ h => h) (by kernel_rfl) ?_ (by assumption) ?_; rotate_left 1; (focus (intro wS hSw; (try dsimp only at hSw); go_simp <;> with_reducible rfl)); simp only [List.set_cons_zero, List.set_cons_succ])
        focus (refine wpAnyH_take2 (i := 3) (fuel := 15) (L := (true :: true :: true :: true :: false :: false :: false :: false :: false :: false :: false :: false :: false :: false :: false :: false :: false :: false :: false :: []).toArray) (v := ?_) rfl rfl (by kernel_rfl) (by kernel_rfl) (by kernel_rfl) (by kernel_rfl) (fun _ _ _ h => h) (by kernel_rfl) ?_ (by assumption) ?_; rotate_left 1; (focus (intro wS hSw; (try dsimp only at hSw); go_simp <;> with_reducible rfl)); simp only [List.set_cons_zero, List.set_cons_succ])
        focus (refine wpAnyH_take2 (i := 5) (fuel := 14) (L := (true :: true :: true :: true :: false :: true :: false :: false :: false :: false :: false :: false :: false :: false :: false :: false :: false :: false :: false :: []).toArray) (v := ?_) rfl rfl (by kernel_rfl) (by kernel_rfl) (by kernel_rfl) (by kernel_rfl) (fun _ _ _ h => h) (by kernel_rfl) ?_ (by assumption) ?_; rotate_left 1; (focus (intro wS hSw; (try dsimp only at hSw); go_simp <;> with_reducible rfl)); simp only [List.set_cons_zero, List.set_cons_succ])
        focus (refine wpAnyH_take2 (i := 6) (fuel := 13) (L := (true :: true :: true :: true :: false :: true :: true :: false :: false :: false :: false :: false :: false :: false :: false :: false :: false :: false :: false :: []).toArray) (v := ?_) rfl rfl (by kernel_rfl) (by kernel_rfl) (by kernel_rfl) (by kernel_rfl) (fun _ _ _ h => h) (by kernel_rfl) ?_ (by assumption) ?_; rotate_left 1; (focus (intro wS hSw; (try dsimp only at hSw); go_simp <;> with_reducible rfl)); simp only [List.set_cons_zero, List.set_cons_succ])
        focus (refine wpAnyH_take2 (i := 7) (fuel := 12) (L := (true :: true :: true :: true :: false :: true :: true :: true :: false :: false :: false :: false :: false :: false :: false :: false :: false :: false :: false :: []).toArray) (v := ?_) rfl rfl (by kernel_rfl) (by kernel_rfl) (by kernel_rfl) (by kernel_rfl) (fun _ _ _ h => h) (by kernel_rfl) ?_ (by assumption) ?_; rotate_left 1; (focus (intro wS hSw; (try dsimp only at hSw); go_simp <;> with_reducible rfl)); simp only [List.set_cons_zero, List.set_cons_succ])
        focus (refine wpAnyH_take2 (i := 8) (fuel := 11) (L := (true :: true :: true :: true :: false :: true :: true :: true :: true :: false :: false :: false :: false :: false :: false :: false :: false :: false :: false :: []).toArray) (v := ?_) rfl rfl (by kernel_rfl) (by kernel_rfl) (by kernel_rfl) (by kernel_rfl) (fun _ _ _ h => h) (by kernel_rfl) ?_ (by assumption) ?_; rotate_left 1; (focus (intro wS hSw; (try dsimp only at hSw); go_simp <;> with_reducible rfl)); simp only [List.set_cons_zero, List.set_cons_succ])
        focus (refine wpAnyH_take2 (i := 9) (fuel := 10) (L := (true :: true :: true :: true :: false :: true :: true :: true :: true :: true :: false :: false :: false :: false :: false :: false :: false :: false :: false :: []).toArray) (v := ?_) rfl rfl (by kernel_rfl) (by kernel_rfl) (by kernel_rfl) (by kernel_rfl) (fun _ _ _ h => h) (by kernel_rfl) ?_ (by assumption) ?_; rotate_left 1; (focus (intro wS hSw; (try dsimp only at hSw); go_simp <;> with_reducible rfl)); simp only [List.set_cons_zero, List.set_cons_succ])
        focus (refine wpAnyH_take2 (i := 10) (fuel := 9) (L := (true :: true :: true :: true :: false :: true :: true :: true :: true :: true :: true :: false :: false :: false :: false :: false :: false :: false :: false :: []).toArray) (v := ?_) rfl rfl (by kernel_rfl) (by kernel_rfl) (by kernel_rfl) (by kernel_rfl) (fun _ _ _ h => h) (by kernel_rfl) ?_ (by assumption) ?_; rotate_left 1; (focus (intro wS hSw; (try dsimp only at hSw); go_simp <;> with_reducible rfl)); simp only [List.set_cons_zero, List.set_cons_succ])
        focus (refine wpAnyH_take2 (i := 11) (fuel := 8) (L := (true :: true :: true :: true :: false :: true :: true :: true :: true :: true :: true :: true :: false :: false :: false :: false :: false :: false :: false :: []).toArray) (v := ?_) rfl rfl (by kernel_rfl) (by kernel_rfl) (by kernel_rfl) (by kernel_rfl) (fun _ _ _ h => h) (by kernel_rfl) ?_ (by assumption) ?_; rotate_left 1; (focus (intro wS hSw; (try dsimp only at hSw); go_simp <;> with_reducible rfl)); simp only [List.set_cons_zero, List.set_cons_succ])
        focus (refine wpAnyH_take2 (i := 12) (fuel := 7) (L := (true :: true :: true :: true :: false :: true :: true :: true :: true :: true :: true :: true :: true :: false :: false :: false :: false :: false :: false :: []).toArray) (v := ?_) rfl rfl (by kernel_rfl) (by kernel_rfl) (by kernel_rfl) (by kernel_rfl) (fun _ _ _ h => h) (by kernel_rfl) ?_ (by assumption) ?_; rotate_left 1; (focus (intro wS hSw; (try dsimp only at hSw); go_simp <;> with_reducible rfl)); simp only [List.set_cons_zero, List.set_cons_succ])
        focus (refine wpAnyH_take2 (i := 13) (fuel := 6) (L := (true :: true :: true :: true :: false :: true :: true :: true :: true :: true :: true :: true :: true :: true :: false :: false :: false :: false :: false :: []).toArray) (v := ?_) rfl rfl (by kernel_rfl) (by kernel_rfl) (by kernel_rfl) (by kernel_rfl) (fun _ _ _ h => h) (by kernel_rfl) ?_ (by assumption) ?_; rotate_left 1; (focus (intro wS hSw; (try dsimp only at hSw); go_simp <;> with_reducible rfl)); simp only [List.set_cons_zero, List.set_cons_succ])
        focus (refine wpAnyH_take2 (i := 14) (fuel := 5) (L := (true :: true :: true :: true :: false :: true :: true :: true :: true :: true :: true :: true :: true :: true :: true :: false :: false :: false :: false :: []).toArray) (v := ?_) rfl rfl (by kernel_rfl) (by kernel_rfl) (by kernel_rfl) (by kernel_rfl) (fun _ _ _ h => h) (by kernel_rfl) ?_ (by assumption) ?_; rotate_left 1; (focus (intro wS hSw; (try dsimp only at hSw); go_simp <;> with_reducible rfl)); simp only [List.set_cons_zero, List.set_cons_succ])
        focus (refine wpAnyH_take2 (i := 15) (fuel := 4) (L := (true :: true :: true :: true :: false :: true :: true :: true :: true :: true :: true :: true :: true :: true :: true :: true :: false :: false :: false :: []).toArray) (v := ?_) rfl rfl (by kernel_rfl) (by kernel_rfl) (by kernel_rfl) (by kernel_rfl) (fun _ _ _ h => h) (by kernel_rfl) ?_ (by assumption) ?_; rotate_left 1; (focus (intro wS hSw; (try dsimp only at hSw); go_simp <;> with_reducible rfl)); simp only [List.set_cons_zero, List.set_cons_succ])
        refine wpAnyH_next (i := 4) (fuel := 3) (L := (true :: true :: true :: true :: true :: true :: true :: true :: true :: true :: true :: true :: true :: true :: true :: true :: false :: false :: false :: []).toArray) rfl (by kernel_rfl) (by kernel_rfl) (by kernel_rfl) (fun K hK => ?_)
        focus (refine at_look _ (.tmp 69) (.tmp 71) (by rfl) m 8 _ _ _ _ (by rfl) (by rfl) (heap_stays (grown_bel HW3.out hHeld.1 hXw) HM.out) (by rfl) ?_)
        refine hK.out _ _ (hHeld) (fun hHeld => ?_)
        clear hK K
        refine wpAnyH_next (i := 16) (fuel := 2) (L := (true :: true :: true :: true :: true :: true :: true :: true :: true :: true :: true :: true :: true :: true :: true :: true :: true :: false :: false :: []).toArray) rfl (by kernel_rfl) (by kernel_rfl) (by kernel_rfl) (fun K hK => ?_)
        focus (go_simp; refine (HCALL.out _ (grown_bel HW3.out hHeld.1 hXw)).mono ?_; rintro e w4 ⟨rfl, hb4⟩)
        refine hK.out _ _ (mkS _ (grown_tr hHeld.1 (below_grown hb4 _)) (hHeld.2.1.stays hb4)) (fun hHeld => ?_)
        clear hK K
        refine wpAnyH_next (i := 17) (fuel := 1) (L := (true :: true :: true :: true :: true :: true :: true :: true :: true :: true :: true :: true :: true :: true :: true :: true :: true :: true :: false :: []).toArray) rfl (by kernel_rfl) (by kernel_rfl) (by kernel_rfl) (fun K hK => ?_)
        focus (obtain ⟨a0, b0, c0, z0, z1, z2, f0, f1, f2⟩ := hHeld.2.1.facts; go_simp)
        refine hK.out _ _ (mkS _ (grown_set3 hHeld.1 _ _ _) (hHeld.2.1.set3 _ _ _)) (fun hHeld => ?_)
        clear hK K
        focus (refine wpAnyH_take2 (i := 18) (fuel := 0) (L := (true :: true :: true :: true :: true :: true :: true :: true :: true :: true :: true :: true :: true :: true :: true :: true :: true :: true :: true :: []).toArray) (v := ?_) rfl rfl (by kernel_rfl) (by kernel_rfl) (by kernel_rfl) (by kernel_rfl) (fun _ _ _ h => h) (by kernel_rfl) ?_ (by assumption) ?_; rotate_left 1; (focus (intro wS hSw; (try dsimp only at hSw); go_simp <;> with_reducible rfl)); simp only [List.set_cons_zero, List.set_cons_succ])
        refine wpAnyH_done (by kernel_rfl) (NoPanic.normal ?_) _
        rotate_left 1
        have HF := Lib.hid (grown_bel HW3.out hHeld.1 hXw)
        go_wp2_with fail
        exact bodyPost_ret (v := .tuple #[.agg #[.int .i64 rv.kind, .int .i64 rv.num, .string rv.text], .int .i64 0]) (by simp [results, Tryz.results114, go_sem, cell_set_self, z0, z1, z2]) rfl ⟨rfl, HF.out⟩
      · obtain rfl : k = 2 := by have h := HAR.out; have h2 := HK.out; rw [if_neg (by decide)] at h; omega
        obtain ⟨a, b, rfl⟩ : ∃ a b, pre = [a, b] := by
          match pre, hpl with
          | [a, b], _ => exact ⟨a, b, rfl⟩
        obtain ⟨b1, o1, hA1, hb1l, u0, u1, u2⟩ := vls_cells (l := [a, b]) HVL3.out (k := 0) (by simp)
        obtain ⟨b2, o2, hA2, -, t0, t1, t2⟩ := vls_cells (l := [a, b]) HVL3.out (k := 1) (by simp)
        subst hA1
        injection hA2 with hA2
        injection hA2 with e1 e2
        subst e1 e2
        have hbX : b1 ≠ X + 1 := hrb b1 o1 cr rfl
        simp only [List.getD_cons_zero, List.getD_cons_succ, Nat.zero_mul, Nat.one_mul, Nat.add_zero] at u0 u1 u2 t0 t1 t2
        clear hrb
        have heq := fun W => vl_eq2 a b W
        unfold vlV at heq
        have HCALL : Hid (∀ W : World, Calls Tryz.prog 147 #[.bool (vlEq a b)] W fun e w' => e = .returned (.agg #[.int .i64 rv.kind, .int .i64 rv.num, .string rv.text]) ∧ Below W.heap.size W w') := Lib.hid (fun W => by
          have h := flag_any (vlEq a b) W
          have e : flagV (vlEq a b) = rv := hrv
          rw [e] at h
          exact h)
        have hXB : X ≠ X + 1 := by omega
        have mkS : ∀ W, w3.grownBy W (some (X + 1)) → VBox W (X + 1) → (fun W => w3.grownBy W (some (X + 1)) ∧ VBox W (X + 1) ∧ W.cell? ⟨b1, o1, none⟩ = some (.int .i64 a.kind) ∧ W.cell? ⟨b1, o1 + 1, none⟩ = some (.int .i64 a.num) ∧ W.cell? ⟨b1, o1 + 2, none⟩ = some (.string a.text) ∧ W.cell? ⟨b1, o1 + 3, none⟩ = some (.int .i64 b.kind) ∧ W.cell? ⟨b1, o1 + 3 + 1, none⟩ = some (.int .i64 b.num) ∧ W.cell? ⟨b1, o1 + 3 + 2, none⟩ = some (.string b.text)) W := fun W hg hv => ⟨hg, hv, cell_grown hg u0 (fun e => hbX (by injection e with e; exact e.symm)), cell_grown hg u1 (fun e => hbX (by injection e with e; exact e.symm)), cell_grown hg u2 (fun e => hbX (by injection e with e; exact e.symm)), cell_grown hg t0 (fun e => hbX (by injection e with e; exact e.symm)), cell_grown hg t1 (fun e => hbX (by injection e with e; exact e.symm)), cell_grown hg t2 (fun e => hbX (by injection e with e; exact e.symm))⟩
        go_wp2_with fail
        refine wp_region_noPanic ?_
        refine wp_region_held_drew (S := fun W => w3.grownBy W (some (X + 1)) ∧ VBox W (X + 1) ∧ W.cell? ⟨b1, o1, none⟩ = some (.int .i64 a.kind) ∧ W.cell? ⟨b1, o1 + 1, none⟩ = some (.int .i64 a.num) ∧ W.cell? ⟨b1, o1 + 2, none⟩ = some (.string a.text) ∧ W.cell? ⟨b1, o1 + 3, none⟩ = some (.int .i64 b.kind) ∧ W.cell? ⟨b1, o1 + 3 + 1, none⟩ = some (.int .i64 b.num) ∧ W.cell? ⟨b1, o1 + 3 + 2, none⟩ = some (.string b.text)) (by kernel_rfl) (mkS _ (below_grown (Below.refl _ _).drew _) (HB3v.out.stays (Below.refl _ _).drew)) (fun hHeld => ?_)
        generalize w3.drew = wD at hHeld ⊢
        focus (refine wpAnyH_take2 (i := 0) (fuel := 9) (L := (true :: false :: false :: false :: false :: false :: false :: false :: false :: false :: []).toArray) (v := ?_) rfl rfl (by kernel_rfl) (by kernel_rfl) (by kernel_rfl) (by kernel_rfl) (fun _ _ _ h => h) (by kernel_rfl) ?_ (by assumption) ?_; rotate_left 1; (focus (intro wS hSw; (try dsimp only at hSw); go_simp <;> with_reducible rfl)); simp only [List.set_cons_zero, List.set_cons_succ])
        focus (refine wpAnyH_take2 (i := 1) (fuel := 8) (L := (true :: true :: false :: false :: false :: false :: false :: false :: false :: false :: []).toArray) (v := ?_) rfl rfl (by kernel_rfl) (by kernel_rfl) (by kernel_rfl) (by kernel_rfl) (fun _ _ _ h => h) (by kernel_rfl) ?_ (by assumption) ?_; rotate_left 1; (focus (intro wS hSw; (try dsimp only at hSw); go_simp <;> with_reducible rfl)); simp only [List.set_cons_zero, List.set_cons_succ])
        focus (refine wpAnyH_take2 (i := 2) (fuel := 7) (L := (true :: true :: true :: false :: false :: false :: false :: false :: false :: false :: []).toArray) (v := ?_) rfl rfl (by kernel_rfl) (by kernel_rfl) (by kernel_rfl) (by kernel_rfl) (fun _ _ _ h => h) (by kernel_rfl) ?_ (by assumption) ?_; rotate_left 1; (focus (intro wS hSw; (try dsimp only at hSw); go_simp <;> with_reducible rfl)); simp only [List.set_cons_zero, List.set_cons_succ])
        focus (refine wpAnyH_take2 (i := 3) (fuel := 6) (L := (true :: true :: true :: true :: false :: false :: false :: false :: false :: false :: []).toArray) (v := ?_) rfl rfl (by kernel_rfl) (by kernel_rfl) (by kernel_rfl) (by kernel_rfl) (fun _ _ _ h => h) (by kernel_rfl) ?_ (by assumption) ?_; rotate_left 1; (focus (intro wS hSw; (try dsimp only at hSw); go_simp <;> with_reducible rfl)); simp only [List.set_cons_zero, List.set_cons_succ])
        focus (refine wpAnyH_take2 (i := 4) (fuel := 5) (L := (true :: true :: true :: true :: true :: false :: false :: false :: false :: false :: []).toArray) (v := ?_) rfl rfl (by kernel_rfl) (by kernel_rfl) (by kernel_rfl) (by kernel_rfl) (fun _ _ _ h => h) (by kernel_rfl) ?_ (by assumption) ?_; rotate_left 1; (focus (intro wS hSw; (try dsimp only at hSw); go_simp <;> with_reducible rfl)); simp only [List.set_cons_zero, List.set_cons_succ])
        focus (refine wpAnyH_take2 (i := 5) (fuel := 4) (L := (true :: true :: true :: true :: true :: true :: false :: false :: false :: false :: []).toArray) (v := ?_) rfl rfl (by kernel_rfl) (by kernel_rfl) (by kernel_rfl) (by kernel_rfl) (fun _ _ _ h => h) (by kernel_rfl) ?_ (by assumption) ?_; rotate_left 1; (focus (intro wS hSw; (try dsimp only at hSw); go_simp <;> with_reducible rfl)); simp only [List.set_cons_zero, List.set_cons_succ])
        focus (refine wpAnyH_take2 (i := 6) (fuel := 3) (L := (true :: true :: true :: true :: true :: true :: true :: false :: false :: false :: []).toArray) (v := ?_) rfl rfl (by kernel_rfl) (by kernel_rfl) (by kernel_rfl) (by kernel_rfl) (fun _ _ _ h => h) (by kernel_rfl) ?_ (by assumption) ?_; rotate_left 1; (focus (intro wS hSw; (try dsimp only at hSw); go_simp <;> with_reducible rfl)); simp only [List.set_cons_zero, List.set_cons_succ])
        refine wpAnyH_next (i := 7) (fuel := 2) (L := (true :: true :: true :: true :: true :: true :: true :: true :: false :: false :: []).toArray) rfl (by kernel_rfl) (by kernel_rfl) (by kernel_rfl) (fun K hK => ?_)
        focus (go_simp; refine (HCALL.out _).mono ?_; rintro e w4 ⟨rfl, hb4⟩)
        refine hK.out _ _ (mkS _ (grown_tr hHeld.1 (below_grown hb4 _)) (hHeld.2.1.stays hb4)) (fun hHeld => ?_)
        clear hK K
        refine wpAnyH_next (i := 8) (fuel := 1) (L := (true :: true :: true :: true :: true :: true :: true :: true :: true :: false :: []).toArray) rfl (by kernel_rfl) (by kernel_rfl) (by kernel_rfl) (fun K hK => ?_)
        focus (obtain ⟨a0, b0, c0, z0, z1, z2, f0, f1, f2⟩ := hHeld.2.1.facts; go_simp)
        refine hK.out _ _ (mkS _ (grown_set3 hHeld.1 _ _ _) (hHeld.2.1.set3 _ _ _)) (fun hHeld => ?_)
        clear hK K
        focus (refine wpAnyH_take2 (i := 9) (fuel := 0) (L := (true :: true :: true :: true :: true :: true :: true :: true :: true :: true :: []).toArray) (v := ?_) rfl rfl (by kernel_rfl) (by kernel_rfl) (by kernel_rfl) (by kernel_rfl) (fun _ _ _ h => h) (by kernel_rfl) ?_ (by assumption) ?_; rotate_left 1; (focus (intro wS hSw; (try dsimp only at hSw); go_simp <;> with_reducible rfl)); simp only [List.set_cons_zero, List.set_cons_succ])
        refine wpAnyH_done (by kernel_rfl) (NoPanic.normal ?_) _
        rotate_left 1
        have HF := Lib.hid (grown_bel HW3.out hHeld.1 hXw)
        go_wp2_with fail
        exact bodyPost_ret (v := .tuple #[.agg #[.int .i64 rv.kind, .int .i64 rv.num, .string rv.text], .int .i64 0]) (by simp [results, Tryz.results114, go_sem, cell_set_self, z0, z1, z2]) rfl ⟨rfl, HF.out⟩
      · obtain rfl : k = 2 := by have h := HAR.out; have h2 := HK.out; rw [if_neg (by decide)] at h; omega
        obtain ⟨a, b, rfl⟩ : ∃ a b, pre = [a, b] := by
          match pre, hpl with
          | [a, b], _ => exact ⟨a, b, rfl⟩
        obtain ⟨b1, o1, hA1, hb1l, u0, u1, u2⟩ := vls_cells (l := [a, b]) HVL3.out (k := 0) (by simp)
        obtain ⟨b2, o2, hA2, -, t0, t1, t2⟩ := vls_cells (l := [a, b]) HVL3.out (k := 1) (by simp)
        subst hA1
        injection hA2 with hA2
        injection hA2 with e1 e2
        subst e1 e2
        have hbX : b1 ≠ X + 1 := hrb b1 o1 cr rfl
        simp only [List.getD_cons_zero, List.getD_cons_succ, Nat.zero_mul, Nat.one_mul, Nat.add_zero] at u0 u1 u2 t0 t1 t2
        clear hrb
        have HCALL : Hid (∀ W : World, Below w.heap.size w W → Calls Tryz.prog 149 #[.int .i64 a.num, .int .i64 b.num] W fun e w' => e = .returned (.agg #[.int .i64 rv.kind, .int .i64 rv.num, .string rv.text]) ∧ Below W.heap.size W w') := Lib.hid (fun W hW => by
          have h := op10_any a.num b.num W
          have e : flagV (decide (a.num = 1) && decide (b.num = 1)) = rv := hrv
          rw [e] at h
          exact h)
        have hw0 : IntKind.i64.wrap 1 = 1 := wrap_nat (n := 1) (by omega)
        have hXB : X ≠ X + 1 := by omega
        have mkS : ∀ W, w3.grownBy W (some (X + 1)) → VBox W (X + 1) → (fun W => w3.grownBy W (some (X + 1)) ∧ VBox W (X + 1) ∧ W.cell? ⟨E, 7, none⟩ = some (.map (some m)) ∧ W.cell? ⟨X, 0, none⟩ = some (.int .i64 10) ∧ W.cell? ⟨b1, o1 + 1, none⟩ = some (.int .i64 a.num) ∧ W.cell? ⟨b1, o1 + 3 + 1, none⟩ = some (.int .i64 b.num)) W := fun W hg hv => ⟨hg, hv, cell_grown hg r7 (fun e => hEB (by injection e with e; exact e.symm)), cell_grown hg q0 (fun e => hXB (by injection e with e; exact e.symm)), cell_grown hg u1 (fun e => hbX (by injection e with e; exact e.symm)), cell_grown hg t1 (fun e => hbX (by injection e with e; exact e.symm))⟩
        go_wp2_with fail
        refine wp_region_noPanic ?_
        refine wp_region_held_drew (S := fun W => w3.grownBy W (some (X + 1)) ∧ VBox W (X + 1) ∧ W.cell? ⟨E, 7, none⟩ = some (.map (some m)) ∧ W.cell? ⟨X, 0, none⟩ = some (.int .i64 10) ∧ W.cell? ⟨b1, o1 + 1, none⟩ = some (.int .i64 a.num) ∧ W.cell? ⟨b1, o1 + 3 + 1, none⟩ = some (.int .i64 b.num)) (by kernel_rfl) (mkS _ (below_grown (Below.refl _ _).drew _) (HB3v.out.stays (Below.refl _ _).drew)) (fun hHeld => ?_)
        generalize w3.drew = wD at hHeld ⊢
        focus (refine wpAnyH_take2 (i := 0) (fuel := 18) (L := (true :: false :: false :: false :: false :: false :: false :: false :: false :: false :: false :: false :: false :: false :: false :: false :: false :: false :: false :: []).toArray) (v := ?_) rfl rfl (by kernel_rfl) (by kernel_rfl) (by kernel_rfl) (by kernel_rfl) (fun _ _ _ h => h) (by kernel_rfl) ?_ (by assumption) ?_; rotate_left 1; (focus (intro wS hSw; (try dsimp only at hSw); go_simp <;> with_reducible rfl)); simp only [List.set_cons_zero, List.set_cons_succ])
        focus (refine wpAnyH_take2 (i := 1) (fuel := 17) (L := (true :: true :: false :: false :: false :: false :: false :: false :: false :: false :: false :: false :: false :: false :: false :: false :: false :: false :: false :: []).toArray) (v := ?_) rfl rfl (by kernel_rfl) (by kernel_rfl) (by kernel_rfl) (by kernel_rfl) (fun _ _ _ h => h) (by kernel_rfl) ?_ (by assumption) ?_; rotate_left 1; (focus (intro wS hSw; (try dsimp only at hSw); go_simp <;> with_reducible rfl)); simp only [List.set_cons_zero, List.set_cons_succ])
        focus (refine wpAnyH_take2 (i := 2) (fuel := 16) (L := (true :: true :: true :: false :: false :: false :: false :: false :: false :: false :: false :: false :: false :: false :: false :: false :: false :: false :: false :: []).toArray) (v := ?_) rfl rfl (by kernel_rfl) (by kernel_rfl) (by kernel_rfl) (by kernel_rfl) (fun _ _ _ h => h) (by kernel_rfl) ?_ (by assumption) ?_; rotate_left 1; (focus (intro wS hSw; (try dsimp only at hSw); go_simp <;> with_reducible rfl)); simp only [List.set_cons_zero, List.set_cons_succ])
        focus (refine wpAnyH_take2 (i := 3) (fuel := 15) (L := (true :: true :: true :: true :: false :: false :: false :: false :: false :: false :: false :: false :: false :: false :: false :: false :: false :: false :: false :: []).toArray) (v := ?_) rfl rfl (by kernel_rfl) (by kernel_rfl) (by kernel_rfl) (by kernel_rfl) (fun _ _ _ h => h) (by kernel_rfl) ?_ (by assumption) ?_; rotate_left 1; (focus (intro wS hSw; (try dsimp only at hSw); go_simp <;> with_reducible rfl)); simp only [List.set_cons_zero, List.set_cons_succ])
        focus (refine wpAnyH_take2 (i := 5) (fuel := 14) (L := (true :: true :: true :: true :: false :: true :: false :: false :: false :: false :: false :: false :: false :: false :: false :: false :: false :: false :: false :: []).toArray) (v := ?_) rfl rfl (by kernel_rfl) (by kernel_rfl) (by kernel_rfl) (by kernel_rfl) (fun _ _ _ h => h) (by kernel_rfl) ?_ (by assumption) ?_; rotate_left 1; (focus (intro wS hSw; (try dsimp only at hSw); go_simp <;> with_reducible rfl)); simp only [List.set_cons_zero, List.set_cons_succ])
        focus (refine wpAnyH_take2 (i := 6) (fuel := 13) (L := (true :: true :: true :: true :: false :: true :: true :: false :: false :: false :: false :: false :: false :: false :: false :: false :: false :: false :: false :: []).toArray) (v := ?_) rfl rfl (by kernel_rfl) (by kernel_rfl) (by kernel_rfl) (by kernel_rfl) (fun _ _ _ h => h) (by kernel_rfl) ?_ (by assumption) ?_; rotate_left 1; (focus (intro wS hSw; (try dsimp only at hSw); go_simp <;> with_reducible rfl)); simp only [List.set_cons_zero, List.set_cons_succ])
        focus (refine wpAnyH_take2 (i := 7) (fuel := 12) (L := (true :: true :: true :: true :: false :: true :: true :: true :: false :: false :: false :: false :: false :: false :: false :: false :: false :: false :: false :: []).toArray) (v := ?_) rfl rfl (by kernel_rfl) (by kernel_rfl) (by kernel_rfl) (by kernel_rfl) (fun _ _ _ h => h) (by kernel_rfl) ?_ (by assumption) ?_; rotate_left 1; (focus (intro wS hSw; (try dsimp only at hSw); go_simp <;> with_reducible rfl)); simp only [List.set_cons_zero, List.set_cons_succ])
        focus (refine wpAnyH_take2 (i := 8) (fuel := 11) (L := (true :: true :: true :: true :: false :: true :: true :: true :: true :: false :: false :: false :: false :: false :: false :: false :: false :: false :: false :: []).toArray) (v := ?_) rfl rfl (by kernel_rfl) (by kernel_rfl) (by kernel_rfl) (by kernel_rfl) (fun _ _ _ h => h) (by kernel_rfl) ?_ (by assumption) ?_; rotate_left 1; (focus (intro wS hSw; (try dsimp only at hSw); go_simp <;> with_reducible rfl)); simp only [List.set_cons_zero, List.set_cons_succ])
        focus (refine wpAnyH_take2 (i := 9) (fuel := 10) (L := (true :: true :: true :: true :: false :: true :: true :: true :: true :: true :: false :: false :: false :: false :: false :: false :: false :: false :: false :: []).toArray) (v := ?_) rfl rfl (by kernel_rfl) (by kernel_rfl) (by kernel_rfl) (by kernel_rfl) (fun _ _ _ h => h) (by kernel_rfl) ?_ (by assumption) ?_; rotate_left 1; (focus (intro wS hSw; (try dsimp only at hSw); go_simp <;> with_reducible rfl)); simp only [List.set_cons_zero, List.set_cons_succ])
        focus (refine wpAnyH_take2 (i := 10) (fuel := 9) (L := (true :: true :: true :: true :: false :: true :: true :: true :: true :: true :: true :: false :: false :: false :: false :: false :: false :: false :: false :: []).toArray) (v := ?_) rfl rfl (by kernel_rfl) (by kernel_rfl) (by kernel_rfl) (by kernel_rfl) (fun _ _ _ h => h) (by kernel_rfl) ?_ (by assumption) ?_; rotate_left 1; (focus (intro wS hSw; (try dsimp only at hSw); go_simp <;> with_reducible rfl)); simp only [List.set_cons_zero, List.set_cons_succ])
        focus (refine wpAnyH_take2 (i := 11) (fuel := 8) (L := (true :: true :: true :: true :: false :: true :: true :: true :: true :: true :: true :: true :: false :: false :: false :: false :: false :: false :: false :: []).toArray) (v := ?_) rfl rfl (by kernel_rfl) (by kernel_rfl) (by kernel_rfl) (by kernel_rfl) (fun _ _ _ h => h) (by kernel_rfl) ?_ (by assumption) ?_; rotate_left 1; (focus (intro wS hSw; (try dsimp only at hSw); go_simp <;> with_reducible rfl)); simp only [List.set_cons_zero, List.set_cons_succ])
        focus (refine wpAnyH_take2 (i := 12) (fuel := 7) (L := (true :: true :: true :: true :: false :: true :: true :: true :: true :: true :: true :: true :: true :: false :: false :: false :: false :: false :: false :: []).toArray) (v := ?_) rfl rfl (by kernel_rfl) (by kernel_rfl) (by kernel_rfl) (by kernel_rfl) (fun _ _ _ h => h) (by kernel_rfl) ?_ (by assumption) ?_; rotate_left 1; (focus (intro wS hSw; (try dsimp only at hSw); go_simp <;> with_reducible rfl)); simp only [List.set_cons_zero, List.set_cons_succ])
        focus (refine wpAnyH_take2 (i := 13) (fuel := 6) (L := (true :: true :: true :: true :: false :: true :: true :: true :: true :: true :: true :: true :: true :: true :: false :: false :: false :: false :: false :: []).toArray) (v := ?_) rfl rfl (by kernel_rfl) (by kernel_rfl) (by kernel_rfl) (by kernel_rfl) (fun _ _ _ h => h) (by kernel_rfl) ?_ (by assumption) ?_; rotate_left 1; (focus (intro wS hSw; (try dsimp only at hSw); go_simp <;> with_reducible rfl)); simp only [List.set_cons_zero, List.set_cons_succ])
        focus (refine wpAnyH_take2 (i := 14) (fuel := 5) (L := (true :: true :: true :: true :: false :: true :: true :: true :: true :: true :: true :: true :: true :: true :: true :: false :: false :: false :: false :: []).toArray) (v := ?_) rfl rfl (by kernel_rfl) (by kernel_rfl) (by kernel_rfl) (by kernel_rfl) (fun _ _ _ h => h) (by kernel_rfl) ?_ (by assumption) ?_; rotate_left 1; (focus (intro wS hSw; (try dsimp only at hSw); go_simp <;> with_reducible rfl)); simp only [List.set_cons_zero, List.set_cons_succ])
        focus (refine wpAnyH_take2 (i := 15) (fuel := 4) (L := (true :: true :: true :: true :: false :: true :: true :: true :: true :: true :: true :: true :: true :: true :: true :: true :: false :: false :: false :: []).toArray) (v := ?_) rfl rfl (by kernel_rfl) (by kernel_rfl) (by kernel_rfl) (by kernel_rfl) (fun _ _ _ h => h) (by kernel_rfl) ?_ (by assumption) ?_; rotate_left 1; (focus (intro wS hSw; (try dsimp only at hSw); go_simp <;> with_reducible rfl)); simp only [List.set_cons_zero, List.set_cons_succ])
        refine wpAnyH_next (i := 4) (fuel := 3) (L := (true :: true :: true :: true :: true :: true :: true :: true :: true :: true :: true :: true :: true :: true :: true :: true :: false :: false :: false :: []).toArray) rfl (by kernel_rfl) (by kernel_rfl) (by kernel_rfl) (fun K hK => ?_)
        focus (refine at_look _ (.tmp 69) (.tmp 71) (by rfl) m 10 _ _ _ _ (by rfl) (by rfl) (heap_stays (grown_bel HW3.out hHeld.1 hXw) HM.out) (by rfl) ?_)
        refine hK.out _ _ (hHeld) (fun hHeld => ?_)
        clear hK K
        refine wpAnyH_next (i := 16) (fuel := 2) (L := (true :: true :: true :: true :: true :: true :: true :: true :: true :: true :: true :: true :: true :: true :: true :: true :: true :: false :: false :: []).toArray) rfl (by kernel_rfl) (by kernel_rfl) (by kernel_rfl) (fun K hK => ?_)
        focus (go_simp; refine (HCALL.out _ (grown_bel HW3.out hHeld.1 hXw)).mono ?_; rintro e w4 ⟨rfl, hb4⟩)
        refine hK.out _ _ (mkS _ (grown_tr hHeld.1 (below_grown hb4 _)) (hHeld.2.1.stays hb4)) (fun hHeld => ?_)
        clear hK K
        refine wpAnyH_next (i := 17) (fuel := 1) (L := (true :: true :: true :: true :: true :: true :: true :: true :: true :: true :: true :: true :: true :: true :: true :: true :: true :: true :: false :: []).toArray) rfl (by kernel_rfl) (by kernel_rfl) (by kernel_rfl) (fun K hK => ?_)
        focus (obtain ⟨a0, b0, c0, z0, z1, z2, f0, f1, f2⟩ := hHeld.2.1.facts; go_simp)
        refine hK.out _ _ (mkS _ (grown_set3 hHeld.1 _ _ _) (hHeld.2.1.set3 _ _ _)) (fun hHeld => ?_)
        clear hK K
        focus (refine wpAnyH_take2 (i := 18) (fuel := 0) (L := (true :: true :: true :: true :: true :: true :: true :: true :: true :: true :: true :: true :: true :: true :: true :: true :: true :: true :: true :: []).toArray) (v := ?_) rfl rfl (by kernel_rfl) (by kernel_rfl) (by kernel_rfl) (by kernel_rfl) (fun _ _ _ h => h) (by kernel_rfl) ?_ (by assumption) ?_; rotate_left 1; (focus (intro wS hSw; (try dsimp only at hSw); go_simp <;> with_reducible rfl)); simp only [List.set_cons_zero, List.set_cons_succ])
        refine wpAnyH_done (by kernel_rfl) (NoPanic.normal ?_) _
        rotate_left 1
        have HF := Lib.hid (grown_bel HW3.out hHeld.1 hXw)
        go_wp2_with fail
        exact bodyPost_ret (v := .tuple #[.agg #[.int .i64 rv.kind, .int .i64 rv.num, .string rv.text], .int .i64 0]) (by simp [results, Tryz.results114, go_sem, cell_set_self, z0, z1, z2]) rfl ⟨rfl, HF.out⟩
      · obtain rfl : k = 2 := by have h := HAR.out; have h2 := HK.out; rw [if_neg (by decide)] at h; omega
        obtain ⟨a, b, rfl⟩ : ∃ a b, pre = [a, b] := by
          match pre, hpl with
          | [a, b], _ => exact ⟨a, b, rfl⟩
        obtain ⟨b1, o1, hA1, hb1l, u0, u1, u2⟩ := vls_cells (l := [a, b]) HVL3.out (k := 0) (by simp)
        obtain ⟨b2, o2, hA2, -, t0, t1, t2⟩ := vls_cells (l := [a, b]) HVL3.out (k := 1) (by simp)
        subst hA1
        injection hA2 with hA2
        injection hA2 with e1 e2
        subst e1 e2
        have hbX : b1 ≠ X + 1 := hrb b1 o1 cr rfl
        simp only [List.getD_cons_zero, List.getD_cons_succ, Nat.zero_mul, Nat.one_mul, Nat.add_zero] at u0 u1 u2 t0 t1 t2
        clear hrb
        have HCALL : Hid (∀ W : World, Below w.heap.size w W → Calls Tryz.prog 150 #[.int .i64 a.num, .int .i64 b.num] W fun e w' => e = .returned (.agg #[.int .i64 rv.kind, .int .i64 rv.num, .string rv.text]) ∧ Below W.heap.size W w') := Lib.hid (fun W hW => by
          have h := op11_any a.num b.num W
          have e : flagV (decide (a.num = 1) || decide (b.num = 1)) = rv := hrv
          rw [e] at h
          exact h)
        have hw0 : IntKind.i64.wrap 1 = 1 := wrap_nat (n := 1) (by omega)
        have hXB : X ≠ X + 1 := by omega
        have mkS : ∀ W, w3.grownBy W (some (X + 1)) → VBox W (X + 1) → (fun W => w3.grownBy W (some (X + 1)) ∧ VBox W (X + 1) ∧ W.cell? ⟨E, 7, none⟩ = some (.map (some m)) ∧ W.cell? ⟨X, 0, none⟩ = some (.int .i64 11) ∧ W.cell? ⟨b1, o1 + 1, none⟩ = some (.int .i64 a.num) ∧ W.cell? ⟨b1, o1 + 3 + 1, none⟩ = some (.int .i64 b.num)) W := fun W hg hv => ⟨hg, hv, cell_grown hg r7 (fun e => hEB (by injection e with e; exact e.symm)), cell_grown hg q0 (fun e => hXB (by injection e with e; exact e.symm)), cell_grown hg u1 (fun e => hbX (by injection e with e; exact e.symm)), cell_grown hg t1 (fun e => hbX (by injection e with e; exact e.symm))⟩
        go_wp2_with fail
        refine wp_region_noPanic ?_
        refine wp_region_held_drew (S := fun W => w3.grownBy W (some (X + 1)) ∧ VBox W (X + 1) ∧ W.cell? ⟨E, 7, none⟩ = some (.map (some m)) ∧ W.cell? ⟨X, 0, none⟩ = some (.int .i64 11) ∧ W.cell? ⟨b1, o1 + 1, none⟩ = some (.int .i64 a.num) ∧ W.cell? ⟨b1, o1 + 3 + 1, none⟩ = some (.int .i64 b.num)) (by kernel_rfl) (mkS _ (below_grown (Below.refl _ _).drew _) (HB3v.out.stays (Below.refl _ _).drew)) (fun hHeld => ?_)
        generalize w3.drew = wD at hHeld ⊢
        focus (refine wpAnyH_take2 (i := 0) (fuel := 18) (L := (true :: false :: false :: false :: false :: false :: false :: false :: false :: false :: false :: false :: false :: false :: false :: false :: false :: false :: false :: []).toArray) (v := ?_) rfl rfl (by kernel_rfl) (by kernel_rfl) (by kernel_rfl) (by kernel_rfl) (fun _ _ _ h => h) (by kernel_rfl) ?_ (by assumption) ?_; rotate_left 1; (focus (intro wS hSw; (try dsimp only at hSw); go_simp <;> with_reducible rfl)); simp only [List.set_cons_zero, List.set_cons_succ])
        focus (refine wpAnyH_take2 (i := 1) (fuel := 17) (L := (true :: true :: false :: false :: false :: false :: false :: false :: false :: false :: false :: false :: false :: false :: false :: false :: false :: false :: false :: []).toArray) (v := ?_) rfl rfl (by kernel_rfl) (by kernel_rfl) (by kernel_rfl) (by kernel_rfl) (fun _ _ _ h => h) (by kernel_rfl) ?_ (by assumption) ?_; rotate_left 1; (focus (intro wS hSw; (try dsimp only at hSw); go_simp <;> with_reducible rfl)); simp only [List.set_cons_zero, List.set_cons_succ])
        focus (refine wpAnyH_take2 (i := 2) (fuel := 16) (L := (true :: true :: true :: false :: false :: false :: false :: false :: false :: false :: false :: false :: false :: false :: false :: false :: false :: false :: false :: []).toArray) (v := ?_) rfl rfl (by kernel_rfl) (by kernel_rfl) (by kernel_rfl) (by kernel_rfl) (fun _ _ _ h => h) (by kernel_rfl) ?_ (by assumption) ?_; rotate_left 1; (focus (intro wS hSw; (try dsimp only at hSw); go_simp <;> with_reducible rfl)); simp only [List.set_cons_zero, List.set_cons_succ])
        focus (refine wpAnyH_take2 (i := 3) (fuel := 15) (L := (true :: true :: true :: true :: false :: false :: false :: false :: false :: false :: false :: false :: false :: false :: false :: false :: false :: false :: false :: []).toArray) (v := ?_) rfl rfl (by kernel_rfl) (by kernel_rfl) (by kernel_rfl) (by kernel_rfl) (fun _ _ _ h => h) (by kernel_rfl) ?_ (by assumption) ?_; rotate_left 1; (focus (intro wS hSw; (try dsimp only at hSw); go_simp <;> with_reducible rfl)); simp only [List.set_cons_zero, List.set_cons_succ])
        focus (refine wpAnyH_take2 (i := 5) (fuel := 14) (L := (true :: true :: true :: true :: false :: true :: false :: false :: false :: false :: false :: false :: false :: false :: false :: false :: false :: false :: false :: []).toArray) (v := ?_) rfl rfl (by kernel_rfl) (by kernel_rfl) (by kernel_rfl) (by kernel_rfl) (fun _ _ _ h => h) (by kernel_rfl) ?_ (by assumption) ?_; rotate_left 1; (focus (intro wS hSw; (try dsimp only at hSw); go_simp <;> with_reducible rfl)); simp only [List.set_cons_zero, List.set_cons_succ])
        focus (refine wpAnyH_take2 (i := 6) (fuel := 13) (L := (true :: true :: true :: true :: false :: true :: true :: false :: false :: false :: false :: false :: false :: false :: false :: false :: false :: false :: false :: []).toArray) (v := ?_) rfl rfl (by kernel_rfl) (by kernel_rfl) (by kernel_rfl) (by kernel_rfl) (fun _ _ _ h => h) (by kernel_rfl) ?_ (by assumption) ?_; rotate_left 1; (focus (intro wS hSw; (try dsimp only at hSw); go_simp <;> with_reducible rfl)); simp only [List.set_cons_zero, List.set_cons_succ])
        focus (refine wpAnyH_take2 (i := 7) (fuel := 12) (L := (true :: true :: true :: true :: false :: true :: true :: true :: false :: false :: false :: false :: false :: false :: false :: false :: false :: false :: false :: []).toArray) (v := ?_) rfl rfl (by kernel_rfl) (by kernel_rfl) (by kernel_rfl) (by kernel_rfl) (fun _ _ _ h => h) (by kernel_rfl) ?_ (by assumption) ?_; rotate_left 1; (focus (intro wS hSw; (try dsimp only at hSw); go_simp <;> with_reducible rfl)); simp only [List.set_cons_zero, List.set_cons_succ])
        focus (refine wpAnyH_take2 (i := 8) (fuel := 11) (L := (true :: true :: true :: true :: false :: true :: true :: true :: true :: false :: false :: false :: false :: false :: false :: false :: false :: false :: false :: []).toArray) (v := ?_) rfl rfl (by kernel_rfl) (by kernel_rfl) (by kernel_rfl) (by kernel_rfl) (fun _ _ _ h => h) (by kernel_rfl) ?_ (by assumption) ?_; rotate_left 1; (focus (intro wS hSw; (try dsimp only at hSw); go_simp <;> with_reducible rfl)); simp only [List.set_cons_zero, List.set_cons_succ])
        focus (refine wpAnyH_take2 (i := 9) (fuel := 10) (L := (true :: true :: true :: true :: false :: true :: true :: true :: true :: true :: false :: false :: false :: false :: false :: false :: false :: false :: false :: []).toArray) (v := ?_) rfl rfl (by kernel_rfl) (by kernel_rfl) (by kernel_rfl) (by kernel_rfl) (fun _ _ _ h => h) (by kernel_rfl) ?_ (by assumption) ?_; rotate_left 1; (focus (intro wS hSw; (try dsimp only at hSw); go_simp <;> with_reducible rfl)); simp only [List.set_cons_zero, List.set_cons_succ])
        focus (refine wpAnyH_take2 (i := 10) (fuel := 9) (L := (true :: true :: true :: true :: false :: true :: true :: true :: true :: true :: true :: false :: false :: false :: false :: false :: false :: false :: false :: []).toArray) (v := ?_) rfl rfl (by kernel_rfl) (by kernel_rfl) (by kernel_rfl) (by kernel_rfl) (fun _ _ _ h => h) (by kernel_rfl) ?_ (by assumption) ?_; rotate_left 1; (focus (intro wS hSw; (try dsimp only at hSw); go_simp <;> with_reducible rfl)); simp only [List.set_cons_zero, List.set_cons_succ])
        focus (refine wpAnyH_take2 (i := 11) (fuel := 8) (L := (true :: true :: true :: true :: false :: true :: true :: true :: true :: true :: true :: true :: false :: false :: false :: false :: false :: false :: false :: []).toArray) (v := ?_) rfl rfl (by kernel_rfl) (by kernel_rfl) (by kernel_rfl) (by kernel_rfl) (fun _ _ _ h => h) (by kernel_rfl) ?_ (by assumption) ?_; rotate_left 1; (focus (intro wS hSw; (try dsimp only at hSw); go_simp <;> with_reducible rfl)); simp only [List.set_cons_zero, List.set_cons_succ])
        focus (refine wpAnyH_take2 (i := 12) (fuel := 7) (L := (true :: true :: true :: true :: false :: true :: true :: true :: true :: true :: true :: true :: true :: false :: false :: false :: false :: false :: false :: []).toArray) (v := ?_) rfl rfl (by kernel_rfl) (by kernel_rfl) (by kernel_rfl) (by kernel_rfl) (fun _ _ _ h => h) (by kernel_rfl) ?_ (by assumption) ?_; rotate_left 1; (focus (intro wS hSw; (try dsimp only at hSw); go_simp <;> with_reducible rfl)); simp only [List.set_cons_zero, List.set_cons_succ])
        focus (refine wpAnyH_take2 (i := 13) (fuel := 6) (L := (true :: true :: true :: true :: false :: true :: true :: true :: true :: true :: true :: true :: true :: true :: false :: false :: false :: false :: false :: []).toArray) (v := ?_) rfl rfl (by kernel_rfl) (by kernel_rfl) (by kernel_rfl) (by kernel_rfl) (fun _ _ _ h => h) (by kernel_rfl) ?_ (by assumption) ?_; rotate_left 1; (focus (intro wS hSw; (try dsimp only at hSw); go_simp <;> with_reducible rfl)); simp only [List.set_cons_zero, List.set_cons_succ])
        focus (refine wpAnyH_take2 (i := 14) (fuel := 5) (L := (true :: true :: true :: true :: false :: true :: true :: true :: true :: true :: true :: true :: true :: true :: true :: false :: false :: false :: false :: []).toArray) (v := ?_) rfl rfl (by kernel_rfl) (by kernel_rfl) (by kernel_rfl) (by kernel_rfl) (fun _ _ _ h => h) (by kernel_rfl) ?_ (by assumption) ?_; rotate_left 1; (focus (intro wS hSw; (try dsimp only at hSw); go_simp <;> with_reducible rfl)); simp only [List.set_cons_zero, List.set_cons_succ])
        focus (refine wpAnyH_take2 (i := 15) (fuel := 4) (L := (true :: true :: true :: true :: false :: true :: true :: true :: true :: true :: true :: true :: true :: true :: true :: true :: false :: false :: false :: []).toArray) (v := ?_) rfl rfl (by kernel_rfl) (by kernel_rfl) (by kernel_rfl) (by kernel_rfl) (fun _ _ _ h => h) (by kernel_rfl) ?_ (by assumption) ?_; rotate_left 1; (focus (intro wS hSw; (try dsimp only at hSw); go_simp <;> with_reducible rfl)); simp only [List.set_cons_zero, List.set_cons_succ])
        refine wpAnyH_next (i := 4) (fuel := 3) (L := (true :: true :: true :: true :: true :: true :: true :: true :: true :: true :: true :: true :: true :: true :: true :: true :: false :: false :: false :: []).toArray) rfl (by kernel_rfl) (by kernel_rfl) (by kernel_rfl) (fun K hK => ?_)
        focus (refine at_look _ (.tmp 69) (.tmp 71) (by rfl) m 11 _ _ _ _ (by rfl) (by rfl) (heap_stays (grown_bel HW3.out hHeld.1 hXw) HM.out) (by rfl) ?_)
        refine hK.out _ _ (hHeld) (fun hHeld => ?_)
        clear hK K
        refine wpAnyH_next (i := 16) (fuel := 2) (L := (true :: true :: true :: true :: true :: true :: true :: true :: true :: true :: true :: true :: true :: true :: true :: true :: true :: false :: false :: []).toArray) rfl (by kernel_rfl) (by kernel_rfl) (by kernel_rfl) (fun K hK => ?_)
        focus (go_simp; refine (HCALL.out _ (grown_bel HW3.out hHeld.1 hXw)).mono ?_; rintro e w4 ⟨rfl, hb4⟩)
        refine hK.out _ _ (mkS _ (grown_tr hHeld.1 (below_grown hb4 _)) (hHeld.2.1.stays hb4)) (fun hHeld => ?_)
        clear hK K
        refine wpAnyH_next (i := 17) (fuel := 1) (L := (true :: true :: true :: true :: true :: true :: true :: true :: true :: true :: true :: true :: true :: true :: true :: true :: true :: true :: false :: []).toArray) rfl (by kernel_rfl) (by kernel_rfl) (by kernel_rfl) (fun K hK => ?_)
        focus (obtain ⟨a0, b0, c0, z0, z1, z2, f0, f1, f2⟩ := hHeld.2.1.facts; go_simp)
        refine hK.out _ _ (mkS _ (grown_set3 hHeld.1 _ _ _) (hHeld.2.1.set3 _ _ _)) (fun hHeld => ?_)
        clear hK K
        focus (refine wpAnyH_take2 (i := 18) (fuel := 0) (L := (true :: true :: true :: true :: true :: true :: true :: true :: true :: true :: true :: true :: true :: true :: true :: true :: true :: true :: true :: []).toArray) (v := ?_) rfl rfl (by kernel_rfl) (by kernel_rfl) (by kernel_rfl) (by kernel_rfl) (fun _ _ _ h => h) (by kernel_rfl) ?_ (by assumption) ?_; rotate_left 1; (focus (intro wS hSw; (try dsimp only at hSw); go_simp <;> with_reducible rfl)); simp only [List.set_cons_zero, List.set_cons_succ])
        refine wpAnyH_done (by kernel_rfl) (NoPanic.normal ?_) _
        rotate_left 1
        have HF := Lib.hid (grown_bel HW3.out hHeld.1 hXw)
        go_wp2_with fail
        exact bodyPost_ret (v := .tuple #[.agg #[.int .i64 rv.kind, .int .i64 rv.num, .string rv.text], .int .i64 0]) (by simp [results, Tryz.results114, go_sem, cell_set_self, z0, z1, z2]) rfl ⟨rfl, HF.out⟩
      · obtain rfl : k = 1 := by have h := HAR.out; have h2 := HK.out; rw [if_pos rfl] at h; omega
        obtain ⟨a, rfl⟩ : ∃ a, pre = [a] := by
          match pre, hpl with
          | [a], _ => exact ⟨a, rfl⟩
        obtain ⟨b1, o1, hA1, hb1l, u0, u1, u2⟩ := vls_cells (l := [a]) HVL3.out (k := 0) (by simp)
        subst hA1
        have hbX : b1 ≠ X + 1 := hrb b1 o1 cr rfl
        simp only [List.getD_cons_zero, Nat.zero_mul, Nat.add_zero] at u0 u1 u2
        clear hrb
        have HCALL : Hid (∀ W : World, Below w.heap.size w W → Calls Tryz.prog 151 #[.int .i64 a.num, .int .i64 a.num] W fun e w' => e = .returned (.agg #[.int .i64 rv.kind, .int .i64 rv.num, .string rv.text]) ∧ Below W.heap.size W w') := Lib.hid (fun W hW => by
          have h := op12_any a.num a.num W
          have e : flagV (!decide (a.num = 1)) = rv := hrv
          rw [e] at h
          exact h)
        have hw0 : IntKind.i64.wrap 0 = 0 := wrap_nat (n := 0) (by omega)
        have hXB : X ≠ X + 1 := by omega
        have mkS : ∀ W, w3.grownBy W (some (X + 1)) → VBox W (X + 1) → (fun W => w3.grownBy W (some (X + 1)) ∧ VBox W (X + 1) ∧ W.cell? ⟨E, 7, none⟩ = some (.map (some m)) ∧ W.cell? ⟨X, 0, none⟩ = some (.int .i64 12) ∧ W.cell? ⟨b1, o1 + 1, none⟩ = some (.int .i64 a.num)) W := fun W hg hv => ⟨hg, hv, cell_grown hg r7 (fun e => hEB (by injection e with e; exact e.symm)), cell_grown hg q0 (fun e => hXB (by injection e with e; exact e.symm)), cell_grown hg u1 (fun e => hbX (by injection e with e; exact e.symm))⟩
        go_wp2_with fail
        refine wp_region_noPanic ?_
        refine wp_region_held_drew (S := fun W => w3.grownBy W (some (X + 1)) ∧ VBox W (X + 1) ∧ W.cell? ⟨E, 7, none⟩ = some (.map (some m)) ∧ W.cell? ⟨X, 0, none⟩ = some (.int .i64 12) ∧ W.cell? ⟨b1, o1 + 1, none⟩ = some (.int .i64 a.num)) (by kernel_rfl) (mkS _ (below_grown (Below.refl _ _).drew _) (HB3v.out.stays (Below.refl _ _).drew)) (fun hHeld => ?_)
        generalize w3.drew = wD at hHeld ⊢
        focus (refine wpAnyH_take2 (i := 0) (fuel := 18) (L := (true :: false :: false :: false :: false :: false :: false :: false :: false :: false :: false :: false :: false :: false :: false :: false :: false :: false :: false :: []).toArray) (v := ?_) rfl rfl (by kernel_rfl) (by kernel_rfl) (by kernel_rfl) (by kernel_rfl) (fun _ _ _ h => h) (by kernel_rfl) ?_ (by assumption) ?_; rotate_left 1; (focus (intro wS hSw; (try dsimp only at hSw); go_simp <;> with_reducible rfl)); simp only [List.set_cons_zero, List.set_cons_succ])
        focus (refine wpAnyH_take2 (i := 1) (fuel := 17) (L := (true :: true :: false :: false :: false :: false :: false :: false :: false :: false :: false :: false :: false :: false :: false :: false :: false :: false :: false :: []).toArray) (v := ?_) rfl rfl (by kernel_rfl) (by kernel_rfl) (by kernel_rfl) (by kernel_rfl) (fun _ _ _ h => h) (by kernel_rfl) ?_ (by assumption) ?_; rotate_left 1; (focus (intro wS hSw; (try dsimp only at hSw); go_simp <;> with_reducible rfl)); simp only [List.set_cons_zero, List.set_cons_succ])
        focus (refine wpAnyH_take2 (i := 2) (fuel := 16) (L := (true :: true :: true :: false :: false :: false :: false :: false :: false :: false :: false :: false :: false :: false :: false :: false :: false :: false :: false :: []).toArray) (v := ?_) rfl rfl (by kernel_rfl) (by kernel_rfl) (by kernel_rfl) (by kernel_rfl) (fun _ _ _ h => h) (by kernel_rfl) ?_ (by assumption) ?_; rotate_left 1; (focus (intro wS hSw; (try dsimp only at hSw); go_simp <;> with_reducible rfl)); simp only [List.set_cons_zero, List.set_cons_succ])
        focus (refine wpAnyH_take2 (i := 3) (fuel := 15) (L := (true :: true :: true :: true :: false :: false :: false :: false :: false :: false :: false :: false :: false :: false :: false :: false :: false :: false :: false :: []).toArray) (v := ?_) rfl rfl (by kernel_rfl) (by kernel_rfl) (by kernel_rfl) (by kernel_rfl) (fun _ _ _ h => h) (by kernel_rfl) ?_ (by assumption) ?_; rotate_left 1; (focus (intro wS hSw; (try dsimp only at hSw); go_simp <;> with_reducible rfl)); simp only [List.set_cons_zero, List.set_cons_succ])
        focus (refine wpAnyH_take2 (i := 5) (fuel := 14) (L := (true :: true :: true :: true :: false :: true :: false :: false :: false :: false :: false :: false :: false :: false :: false :: false :: false :: false :: false :: []).toArray) (v := ?_) rfl rfl (by kernel_rfl) (by kernel_rfl) (by kernel_rfl) (by kernel_rfl) (fun _ _ _ h => h) (by kernel_rfl) ?_ (by assumption) ?_; rotate_left 1; (focus (intro wS hSw; (try dsimp only at hSw); go_simp <;> with_reducible rfl)); simp only [List.set_cons_zero, List.set_cons_succ])
        focus (refine wpAnyH_take2 (i := 6) (fuel := 13) (L := (true :: true :: true :: true :: false :: true :: true :: false :: false :: false :: false :: false :: false :: false :: false :: false :: false :: false :: false :: []).toArray) (v := ?_) rfl rfl (by kernel_rfl) (by kernel_rfl) (by kernel_rfl) (by kernel_rfl) (fun _ _ _ h => h) (by kernel_rfl) ?_ (by assumption) ?_; rotate_left 1; (focus (intro wS hSw; (try dsimp only at hSw); go_simp <;> with_reducible rfl)); simp only [List.set_cons_zero, List.set_cons_succ])
        focus (refine wpAnyH_take2 (i := 7) (fuel := 12) (L := (true :: true :: true :: true :: false :: true :: true :: true :: false :: false :: false :: false :: false :: false :: false :: false :: false :: false :: false :: []).toArray) (v := ?_) rfl rfl (by kernel_rfl) (by kernel_rfl) (by kernel_rfl) (by kernel_rfl) (fun _ _ _ h => h) (by kernel_rfl) ?_ (by assumption) ?_; rotate_left 1; (focus (intro wS hSw; (try dsimp only at hSw); go_simp <;> with_reducible rfl)); simp only [List.set_cons_zero, List.set_cons_succ])
        focus (refine wpAnyH_take2 (i := 8) (fuel := 11) (L := (true :: true :: true :: true :: false :: true :: true :: true :: true :: false :: false :: false :: false :: false :: false :: false :: false :: false :: false :: []).toArray) (v := ?_) rfl rfl (by kernel_rfl) (by kernel_rfl) (by kernel_rfl) (by kernel_rfl) (fun _ _ _ h => h) (by kernel_rfl) ?_ (by assumption) ?_; rotate_left 1; (focus (intro wS hSw; (try dsimp only at hSw); go_simp <;> with_reducible rfl)); simp only [List.set_cons_zero, List.set_cons_succ])
        focus (refine wpAnyH_take2 (i := 9) (fuel := 10) (L := (true :: true :: true :: true :: false :: true :: true :: true :: true :: true :: false :: false :: false :: false :: false :: false :: false :: false :: false :: []).toArray) (v := ?_) rfl rfl (by kernel_rfl) (by kernel_rfl) (by kernel_rfl) (by kernel_rfl) (fun _ _ _ h => h) (by kernel_rfl) ?_ (by assumption) ?_; rotate_left 1; (focus (intro wS hSw; (try dsimp only at hSw); go_simp <;> with_reducible rfl)); simp only [List.set_cons_zero, List.set_cons_succ])
        focus (refine wpAnyH_take2 (i := 10) (fuel := 9) (L := (true :: true :: true :: true :: false :: true :: true :: true :: true :: true :: true :: false :: false :: false :: false :: false :: false :: false :: false :: []).toArray) (v := ?_) rfl rfl (by kernel_rfl) (by kernel_rfl) (by kernel_rfl) (by kernel_rfl) (fun _ _ _ h => h) (by kernel_rfl) ?_ (by assumption) ?_; rotate_left 1; (focus (intro wS hSw; (try dsimp only at hSw); go_simp <;> with_reducible rfl)); simp only [List.set_cons_zero, List.set_cons_succ])
        focus (refine wpAnyH_take2 (i := 11) (fuel := 8) (L := (true :: true :: true :: true :: false :: true :: true :: true :: true :: true :: true :: true :: false :: false :: false :: false :: false :: false :: false :: []).toArray) (v := ?_) rfl rfl (by kernel_rfl) (by kernel_rfl) (by kernel_rfl) (by kernel_rfl) (fun _ _ _ h => h) (by kernel_rfl) ?_ (by assumption) ?_; rotate_left 1; (focus (intro wS hSw; (try dsimp only at hSw); go_simp <;> with_reducible rfl)); simp only [List.set_cons_zero, List.set_cons_succ])
        focus (refine wpAnyH_take2 (i := 12) (fuel := 7) (L := (true :: true :: true :: true :: false :: true :: true :: true :: true :: true :: true :: true :: true :: false :: false :: false :: false :: false :: false :: []).toArray) (v := ?_) rfl rfl (by kernel_rfl) (by kernel_rfl) (by kernel_rfl) (by kernel_rfl) (fun _ _ _ h => h) (by kernel_rfl) ?_ (by assumption) ?_; rotate_left 1; (focus (intro wS hSw; (try dsimp only at hSw); go_simp <;> with_reducible rfl)); simp only [List.set_cons_zero, List.set_cons_succ])
        focus (refine wpAnyH_take2 (i := 13) (fuel := 6) (L := (true :: true :: true :: true :: false :: true :: true :: true :: true :: true :: true :: true :: true :: true :: false :: false :: false :: false :: false :: []).toArray) (v := ?_) rfl rfl (by kernel_rfl) (by kernel_rfl) (by kernel_rfl) (by kernel_rfl) (fun _ _ _ h => h) (by kernel_rfl) ?_ (by assumption) ?_; rotate_left 1; (focus (intro wS hSw; (try dsimp only at hSw); go_simp <;> with_reducible rfl)); simp only [List.set_cons_zero, List.set_cons_succ])
        focus (refine wpAnyH_take2 (i := 14) (fuel := 5) (L := (true :: true :: true :: true :: false :: true :: true :: true :: true :: true :: true :: true :: true :: true :: true :: false :: false :: false :: false :: []).toArray) (v := ?_) rfl rfl (by kernel_rfl) (by kernel_rfl) (by kernel_rfl) (by kernel_rfl) (fun _ _ _ h => h) (by kernel_rfl) ?_ (by assumption) ?_; rotate_left 1; (focus (intro wS hSw; (try dsimp only at hSw); go_simp <;> with_reducible rfl)); simp only [List.set_cons_zero, List.set_cons_succ])
        focus (refine wpAnyH_take2 (i := 15) (fuel := 4) (L := (true :: true :: true :: true :: false :: true :: true :: true :: true :: true :: true :: true :: true :: true :: true :: true :: false :: false :: false :: []).toArray) (v := ?_) rfl rfl (by kernel_rfl) (by kernel_rfl) (by kernel_rfl) (by kernel_rfl) (fun _ _ _ h => h) (by kernel_rfl) ?_ (by assumption) ?_; rotate_left 1; (focus (intro wS hSw; (try dsimp only at hSw); go_simp <;> with_reducible rfl)); simp only [List.set_cons_zero, List.set_cons_succ])
        refine wpAnyH_next (i := 4) (fuel := 3) (L := (true :: true :: true :: true :: true :: true :: true :: true :: true :: true :: true :: true :: true :: true :: true :: true :: false :: false :: false :: []).toArray) rfl (by kernel_rfl) (by kernel_rfl) (by kernel_rfl) (fun K hK => ?_)
        focus (refine at_look _ (.tmp 69) (.tmp 71) (by rfl) m 12 _ _ _ _ (by rfl) (by rfl) (heap_stays (grown_bel HW3.out hHeld.1 hXw) HM.out) (by rfl) ?_)
        refine hK.out _ _ (hHeld) (fun hHeld => ?_)
        clear hK K
        refine wpAnyH_next (i := 16) (fuel := 2) (L := (true :: true :: true :: true :: true :: true :: true :: true :: true :: true :: true :: true :: true :: true :: true :: true :: true :: false :: false :: []).toArray) rfl (by kernel_rfl) (by kernel_rfl) (by kernel_rfl) (fun K hK => ?_)
        focus (go_simp; refine (HCALL.out _ (grown_bel HW3.out hHeld.1 hXw)).mono ?_; rintro e w4 ⟨rfl, hb4⟩)
        refine hK.out _ _ (mkS _ (grown_tr hHeld.1 (below_grown hb4 _)) (hHeld.2.1.stays hb4)) (fun hHeld => ?_)
        clear hK K
        refine wpAnyH_next (i := 17) (fuel := 1) (L := (true :: true :: true :: true :: true :: true :: true :: true :: true :: true :: true :: true :: true :: true :: true :: true :: true :: true :: false :: []).toArray) rfl (by kernel_rfl) (by kernel_rfl) (by kernel_rfl) (fun K hK => ?_)
        focus (obtain ⟨a0, b0, c0, z0, z1, z2, f0, f1, f2⟩ := hHeld.2.1.facts; go_simp)
        refine hK.out _ _ (mkS _ (grown_set3 hHeld.1 _ _ _) (hHeld.2.1.set3 _ _ _)) (fun hHeld => ?_)
        clear hK K
        focus (refine wpAnyH_take2 (i := 18) (fuel := 0) (L := (true :: true :: true :: true :: true :: true :: true :: true :: true :: true :: true :: true :: true :: true :: true :: true :: true :: true :: true :: []).toArray) (v := ?_) rfl rfl (by kernel_rfl) (by kernel_rfl) (by kernel_rfl) (by kernel_rfl) (fun _ _ _ h => h) (by kernel_rfl) ?_ (by assumption) ?_; rotate_left 1; (focus (intro wS hSw; (try dsimp only at hSw); go_simp <;> with_reducible rfl)); simp only [List.set_cons_zero, List.set_cons_succ])
        refine wpAnyH_done (by kernel_rfl) (NoPanic.normal ?_) _
        rotate_left 1
        have HF := Lib.hid (grown_bel HW3.out hHeld.1 hXw)
        go_wp2_with fail
        exact bodyPost_ret (v := .tuple #[.agg #[.int .i64 rv.kind, .int .i64 rv.num, .string rv.text], .int .i64 0]) (by simp [results, Tryz.results114, go_sem, cell_set_self, z0, z1, z2]) rfl ⟨rfl, HF.out⟩
theorem eval_any (vs : List (List Evt)) (v : Value) (own : Int) (ev : Evt) (u : Value) (m : Nat) (hsm : ∀ k, (evsAt vs k).length ≤ 1048576) (d : Nat) : ∀ (x : Ex) (vx : Value) (w : World), IsVars w v vs → IsVls w u ev.vals → OpsAt w m → IsExs d w vx x.args → nodesE x = 0 →
    Calls Tryz.prog 114 #[evaV v own ev u m, exV x vx] w fun e w' => e = .returned (.tuple #[vlV (evalR vs own ev x).1, .int .i64 (evalR vs own ev x).2]) ∧ Below w.heap.size w w' := by
  induction d with
  | zero => exact eval_step 0 vs v own ev u m hsm (fun d' h => by omega)
  | succ d ih => exact eval_step (d + 1) vs v own ev u m hsm (fun d' h => Nat.succ.inj h ▸ ih)
end Go.Proofs.YtclpglgigpjfoaaGreatDoor
