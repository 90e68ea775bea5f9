/- The law MatchRows, its second form: Row returns the values or the error of the reference for all lists of events, queries and matches. Condition: what the call reads is of bulk at most 1048576 (the form's own). -/
import Derived.Test.YtclpglgigpjfoaaGreatDoorTie
import Derived.Test.YtclpglgigpjfoaaGreatDoorCards
import Derived.Test.YtclpglgigpjfoaaGreatDoorQMfmtp
import Derived.Test.YtclpglgigpjfoaaGreatDoorQMawake
import Derived.Test.YtclpglgigpjfoaaGreatDoorQLcmp
import Derived.Test.YtclpglgigpjfoaaGreatDoorQMex
import Derived.Test.YtclpglgigpjfoaaGreatDoorQMrrow
import Derived.Deep.DeepHandedRow
namespace Go.Proofs.YtclpglgigpjfoaaGreatDoor
open Go.ChangeShapes Go.WideShapes Go.ChangeAt Go.RowKit Go.Deep

theorem info_qry : (Tryz.prog.info? 94).map (·.size) = some 18 := by kernel_rfl
theorem sl_len {α : Type} {R : World → Nat → Nat → α → Prop} {sz : Nat} {w : World} {v : Value} {l : List α} (h : Sl R sz w v l) : (l.length : Int) ≤ 9223372036854775807 := by
  obtain ⟨A, c, e, h1, h2, h3⟩ := h
  exact len_i64 h1 h2
theorem mats_one' {w : World} {b : Nat} {va : Value} {x : List Bnd} (h0 : w.cell? ⟨b, 0, none⟩ = some va) (ha : IsBnds w va x) : IsMats w (.slice (some ⟨b, 0, none⟩) 1 1) [x] :=
  ⟨_, 1, rfl, Nat.le_refl _, by decide, fun k u hk => ⟨b, 0, rfl, by
    match k, hk with
    | 0, hk => simp at hk; subst hk; exact ⟨va, ha, h0⟩
    | k + 1, hk => simp at hk⟩⟩
set_option maxRecDepth 100000 in
set_option maxHeartbeats 16000000 in
theorem rows_walk (l : List Evt) (v : Value) (vars : List Nv) (rets : List Ex) (d : Nat) (c0 c1 c2 c3 c4 c5 c6 c7 c8 c9 c10 c11 c12 c13 c14 c15 c16 c17 : Value) (a : List Bnd) (va : Value) (w : World) (hl : IsEvts w v l) (hvs : IsNvs w c1 vars) (hr : IsExs d w c17 rets) (ha : IsBnds w va a)
    (hN : ∀ x ∈ rets, nodesN x ≤ 1048576) (hx : Lx w) :
    Calls Tryz.prog 9 #[v, .agg #[c0, c1, c2, c3, c4, c5, c6, c7, c8, c9, c10, c11, c12, c13, c14, c15, c16, c17], matV va] w fun e w' => e = .returned (.bool true) ∧ Below w.heap.size w w' := by
  have HA := Lib.hid ha
  have HL := Lib.hid hl
  have HX := Lib.hid hx
  have HVS := Lib.hid hvs
  have HRS := Lib.hid hr
  have HNN := Lib.hid hN
  have hna := sl_len ha
  have hv63 := sl_len hvs
  have hn63 := sl_len hr
  obtain ⟨A, ca, rfl, -⟩ := ha
  obtain ⟨B, cb, rfl, -⟩ := hl
  obtain ⟨Av, cv, rfl, -⟩ := hvs
  obtain ⟨Ax, cx, rfl, -, -, hat⟩ := hr
  have HXL := Lib.hid hat
  clear hx hN hat
  unfold matV
  obtain ⟨t, ht⟩ : ∃ t, fewE l = t := ⟨_, rfl⟩
  have HS := Lib.hid ht
  clear ht
  go_enter Tryz.func9, Tryz.ntmps9
  go_wp2_with fail
  refine calls_gen fun w1 e0 => ?_
  have hQ : w1.heap[w.heap.size]? = some (.cells [c0, .slice Av vars.length cv, c2, c3, c4, c5, c6, c7, c8, c9, c10, c11, c12, c13, c14, c15, c16, .slice Ax rets.length cx].toArray 94 (0, 0)) := by rw [e0]; repeat (first | exact heap_new' _ _ _ (by simp) | apply heap_old)
  have hM : w1.heap[w.heap.size + 1]? = some (.cells [.slice A a.length ca].toArray 24 (0, 0)) := by rw [e0]; repeat (first | exact heap_new' _ _ _ (by simp) | apply heap_old)
  have hb0 : Below w.heap.size w w1 := by rw [e0]; exact (by repeat (first | exact Below.refl _ _ | assumption | refine Below.drew ?_ | refine bel_al ?_ _ | refine bel_set ?_ (by omega) _ | refine bel_tr ?_ (by assumption)))
  clear e0
  refine (few05_any l _ w1 (HL.out.stays evtAt_stays hb0)).mono ?_
  rw [HS.out]
  rintro e wz ⟨rfl, rfl⟩
  have HB1 := Lib.hid hb0
  have HQ := Lib.hid hQ
  have HM := Lib.hid hM
  have hQl := blk_lt hQ
  have hMl := blk_lt hM
  obtain ⟨Q, hQe⟩ : ∃ Q, Q = w.heap.size := ⟨_, rfl⟩
  rw [← hQe] at HQ HM hQl hMl ⊢
  clear hb0 hQ hM hQe
  have m0 : w1.cell? ⟨Q + 1, 0, none⟩ = some (.slice A a.length ca) := blk_cell HM.out 0
  have y1 : w1.cell? ⟨Q, 1, none⟩ = some (.slice Av vars.length cv) := blk_cell HQ.out 1
  have y17 : w1.cell? ⟨Q, 17, none⟩ = some (.slice Ax rets.length cx) := blk_cell HQ.out 17
  cases t with
  | false =>
    go_wp2_with fail
    refine (awake_any _ (HX.out.stays HB1.out)).mono ?_
    rintro e w3 ⟨rfl, hb3⟩
    go_wp2_with fail
    go_ret
    exact ⟨rfl, bel_tr HB1.out hb3⟩
  | true =>
  obtain ⟨t2, ht2⟩ : ∃ t, fewM [a] = t := ⟨_, rfl⟩
  have HS2 := Lib.hid ht2
  clear ht2
  go_wp2_with fail
  refine calls_gen fun W1 e1 => ?_
  have z0 : W1.cell? ⟨w1.heap.size, 0, none⟩ = some (.slice A a.length ca) := by rw [e1]; go_simp
  have hb1 : Below w1.heap.size w1 W1 := by rw [e1]; exact (by repeat (first | exact Below.refl _ _ | assumption | refine Below.drew ?_ | refine bel_al ?_ _ | refine bel_set ?_ (by omega) _ | refine bel_tr ?_ (by assumption)))
  clear e1
  have HB2 := Lib.hid (bel_tr HB1.out hb1)
  have HB2r := Lib.hid hb1
  refine (few17_any [a] _ W1 (mats_one' z0 (HA.out.stays bndAt_stays HB2.out))).mono ?_
  rw [HS2.out]
  rintro e w2 ⟨rfl, rfl⟩
  replace y1 := cell_stays hb1 y1
  replace y17 := cell_stays hb1 y17
  clear z0 hb1 m0
  cases t2 with
  | false =>
    go_wp2_with fail
    refine (awake_any _ (HX.out.stays HB2.out)).mono ?_
    rintro e w3 ⟨rfl, hb3⟩
    go_wp2_with fail
    go_ret
    exact ⟨rfl, bel_tr HB2.out hb3⟩
  | true =>
  by_cases g1 : 20 < vars.length
  · have g1' : (20 : Int) < (vars.length : Int) := by omega
    clear g1
    go_wp2_with fail
    refine (awake_any _ (HX.out.stays HB2.out)).mono ?_
    rintro e w3 ⟨rfl, hb3⟩
    go_wp2_with fail
    go_ret
    exact ⟨rfl, bel_tr HB2.out hb3⟩
  have g1' : ¬ (20 : Int) < (vars.length : Int) := by omega
  by_cases g2 : 20 < rets.length
  · have g2' : (20 : Int) < (rets.length : Int) := by omega
    clear g1 g2
    go_wp2_with fail
    refine (awake_any _ (HX.out.stays HB2.out)).mono ?_
    rintro e w3 ⟨rfl, hb3⟩
    go_wp2_with fail
    go_ret
    exact ⟨rfl, bel_tr HB2.out hb3⟩
  have g2' : ¬ (20 : Int) < (rets.length : Int) := by omega
  have hal := (fewM_parts HS2.out).2 a (by simp)
  obtain ⟨hll, hvals⟩ := fewE_parts HS.out
  have hHV : Hid (∀ e ∈ l, e.vals.length ≤ 1048576) := Lib.hid (fun e he => by have := (hvals e he).1; omega)
  have hHA : Hid (a.length ≤ 1048576) := Lib.hid (by omega)
  clear hvals hal hll g1 g2 hMl
  go_wp2_with fail
  go_loopw [38] (fun i wr => ∃ k : Nat, k ≤ rets.length ∧ i = .int .i64 k ∧ Hid (Below W1.heap.size W1 wr)) (fun i _ => rets.length - (intOf i).toNat)
  case atStart => exact ⟨0, Nat.zero_le _, rfl, Lib.hid (Below.refl _ _)⟩
  case round =>
    obtain ⟨k, hk, rfl, hI⟩ := hrel
    have hb := hI.out
    by_cases hlt : k < rets.length
    · have hk' : (k : Int) < (rets.length : Int) := by omega
      obtain ⟨b, o, rfl, hea⟩ := HXL.out k rets[k] (List.getElem?_eq_getElem hlt)
      have hmem : rets[k] ∈ rets := List.getElem_mem hlt
      obtain ⟨x, hxe⟩ : ∃ a, a = rets[k] := ⟨_, rfl⟩
      rw [← hxe] at hea hmem
      clear hxe
      have hNa := HNN.out x hmem
      obtain ⟨d', v', hd', hv', p0, p1, p2, p3, p4, p5, p6, p7⟩ := ex_open (exAt_stays d _ _ _ _ _ (bel_tr HB2.out hb) hea)
      have hv2 := hv'
      obtain ⟨A', c', hvv, -⟩ := hv2
      subst hvv
      obtain ⟨fx, hfx⟩ : ∃ t, fewX x = t := ⟨_, rfl⟩
      have HC := Lib.hid (fun (W : World) (hW : Below wr.heap.size wr W) => rfewx_any d' x _ W (hv'.stays (exAt_stays d') hW) hNa)
      rw [hfx] at HC
      unfold exV at HC
      clear hfx hea hd' hv' hmem hNa
      go_wp2_with fail
      refine (HC.out _ ?_).mono ?_
      · exact (by repeat (first | exact Below.refl _ _ | assumption | refine Below.drew ?_ | refine bel_al ?_ _ | refine bel_set ?_ (by omega) _ | refine bel_tr ?_ (by assumption)))
      rintro e w2 ⟨rfl, hb2⟩
      have HB3 := Lib.hid (bel_tr hb (bel_tr (by exact (by repeat (first | exact Below.refl _ _ | assumption | refine Below.drew ?_ | refine bel_al ?_ _ | refine bel_set ?_ (by omega) _ | refine bel_tr ?_ (by assumption)))) hb2))
      clear hb2 p0 p1 p2 p3 p4 p5 p6 p7
      cases fx with
      | false =>
        go_wp2_with fail
        refine (awake_any _ (HX.out.stays (bel_tr HB2.out HB3.out))).mono ?_
        rintro e w3 ⟨rfl, hb3⟩
        go_wp2_with fail
        go_ret
        exact ⟨rfl, bel_tr (bel_tr HB2.out HB3.out) hb3⟩
      | true =>
        go_wp2_with fail
        exact ⟨⟨k + 1, by omega, by go_num, HB3⟩, by simp [intOf]; omega⟩
    · have hk' : ¬ (k : Int) < (rets.length : Int) := by omega
      have HBr := Lib.hid (bel_tr HB2.out hb)
      have HBq := Lib.hid (bel_tr HB2r.out hb)
      have m0 : wr.cell? ⟨Q + 1, 0, none⟩ = some (.slice A a.length ca) := blk_cell (heap_stays HBq.out HM.out) 0
      obtain ⟨⟨S, se⟩, hS⟩ : ∃ r, rowR l vars.length rets a = r := ⟨_, rfl⟩
      have HR1 := Lib.hid (fun W (hW : Below w.heap.size w W) => row_any l vars rets a d _ _ c0 (.slice Av vars.length cv) c2 c3 c4 c5 c6 c7 c8 c9 c10 c11 c12 c13 c14 c15 c16 (.slice Ax rets.length cx) W (HL.out.stays evtAt_stays hW) (HA.out.stays bndAt_stays hW) (HVS.out.stays nvAt_stays hW) (HRS.out.stays (exAt_stays d) hW) hHV.out hHA.out HNN.out)
      have HR2 := Lib.hid (fun W (hW : Below w.heap.size w W) => rrow_any l vars rets a d _ _ c0 (.slice Av vars.length cv) c2 c3 c4 c5 c6 c7 c8 c9 c10 c11 c12 c13 c14 c15 c16 (.slice Ax rets.length cx) W (HL.out.stays evtAt_stays hW) (HA.out.stays bndAt_stays hW) (HVS.out.stays nvAt_stays hW) (HRS.out.stays (exAt_stays d) hW) hHV.out hHA.out HNN.out)
      rw [hS] at HR1 HR2
      unfold matV at HR1 HR2
      clear hS
      have HQr := Lib.hid (heap_stays HBq.out HQ.out)
      go_wp2_with (refine wpList_load_row rfl 94 (.tmp 4) rfl Q rfl 94 _ (0, 0) _ HQr.out Tryz.underlying94 rfl info_qry ?_)
      refine (HR1.out _ HBr.out).mono ?_
      rintro e w3 ⟨v3, rfl, hv3, hb3⟩
      have HV3 := Lib.hid hv3
      obtain ⟨A3, cA3, rfl, -⟩ := hv3
      have HB3 := Lib.hid (bel_tr HBr.out hb3)
      have HB3q := Lib.hid (bel_tr HBq.out hb3)
      clear hb3 m0
      have m0 : w3.cell? ⟨Q + 1, 0, none⟩ = some (.slice A a.length ca) := blk_cell (heap_stays HB3q.out HM.out) 0
      have HQ3 := Lib.hid (heap_stays HB3q.out HQ.out)
      go_wp2_with (refine wpList_load_row rfl 94 (.tmp 4) rfl Q rfl 94 _ (0, 0) _ HQ3.out Tryz.underlying94 rfl info_qry ?_)
      refine (HR2.out _ HB3.out).mono ?_
      rintro e w4 ⟨v4, rfl, hv4, hb4⟩
      have HV4 := Lib.hid hv4
      obtain ⟨A4, cA4, rfl, -⟩ := hv4
      have HB4 := Lib.hid (bel_tr HB3.out hb4)
      have HSM := Lib.hid (rvsame_eq S _ _ w4 (HV3.out.stays vlAt_stays hb4) HV4.out)
      clear hb4 m0
      have hse : (se == se) = true := by simp
      go_wp2_with fail
      refine HSM.out.mono ?_
      rintro e w5 ⟨rfl, hb5⟩
      go_wp2_with fail
      refine (awake_any _ (HX.out.stays (bel_tr HB4.out hb5))).mono ?_
      rintro e w6 ⟨rfl, hb6⟩
      go_wp2_with fail
      go_ret
      exact ⟨rfl, bel_tr (bel_tr HB4.out hb5) hb6⟩
-- FRAME
theorem nodes_mem : ∀ {l : List Ex} {x : Ex}, x ∈ l → nodesN x ≤ (l.map nodesN).sum
  | a :: r, x, h => by
    rw [List.map_cons, List.sum_cons]
    rcases List.mem_cons.1 h with rfl | h
    · omega
    · have := nodes_mem h; omega
def qryZero : Value := .agg #[.string ⟨#[]⟩, .slice none 0 0, .slice none 0 0, .int .i64 0, .slice none 0 0, .int .i64 0, .int .i64 0, .int .i64 0, .int .i64 0, .int .i64 0, .slice none 0 0, .int .i64 0, .int .i64 0, .int .i64 0, .int .i64 0, .int .i64 0, .string ⟨#[]⟩, .slice none 0 0]
theorem rows_reads (os : Os) {H : Type} (enc : TypeId × Value → H) : ∃ places, DataW.whole enc Tryz.prog ((World.doorLaid Tryz.prog 400 os).forCall (fun _ _ => 0) ⟨#[], #[.slice none 0 0, qryZero, .agg #[.slice none 0 0]], []⟩).memory Tryz.f9.params.toList Rows.matchRowsSpec.vars false #[Value.slice none 0 0, qryZero, .agg #[.slice none 0 0]].toList 8 =
    some ([.nil, .agg [.lit (.string []), .nil, .nil, .agg [.lit (.int .i64 0), .nil, .lit (.int .i64 0), .lit (.int .i64 0), .lit (.int .i64 0), .lit (.int .i64 0), .agg [.lit (.int .i64 0), .nil, .lit (.int .i64 0), .lit (.int .i64 0), .lit (.int .i64 0), .agg [.lit (.int .i64 0), .lit (.int .i64 0), .lit (.string [])]]], .nil], .agg [.nil]], [], places) :=
  ⟨[], by kernel_rfl⟩
set_option maxRecDepth 100000 in
theorem rows_lifted (os : Os) (started : os.Started) (H : Type) (enc : TypeId × Value → H) (F : Stop.Interp) :
    ReturnsInHanded {} Tryz.checked os 9 .any ((Rows.OpenSpec.upto Rows.matchRowsSpec).preRow enc Tryz.prog Tryz.f9 Rows.matchRowsUptoRow.domain false Rows.matchRowsUptoRow.laid) (((Rows.OpenSpec.upto Rows.matchRowsSpec).at F).post enc Tryz.prog Tryz.f9 false true false false) := by
  obtain ⟨places, hx⟩ := rows_reads os enc
  refine returnsInHanded_of_row (C := Tryz.checked) (s := Rows.OpenSpec.upto Rows.matchRowsSpec) own_none started (by kernel_rfl) Tryz.func9
    (witness_row_at (enc := enc) (C := Tryz.checked) false (World.doorLaid Tryz.prog 400 os) #[.slice none 0 0, qryZero, .agg #[.slice none 0 0]] rfl (by kernel_rfl) (by kernel_rfl) (by kernel_rfl)
      (OpenSpec.preRow_of_cond 8 hx (by kernel_rfl) (fun k hk => by cases hk; kernel_rfl) (by kernel_rfl) (door_met os _))) ?_
  intro W base args ds gs before hval0 hW _ hcond _ hL hsh _
  have htab : Lx W := ⟨tab_of_laid hL, Tryz.laysM144.s1_3 W hsh⟩
  have hval : ∀ (j : Nat) t v, Tryz.f9.params[j]? = some t → args[j]? = some v → Value.okWide Tryz.prog W .any base t v := hval0
  have hW' := hW
  obtain ⟨p, q, hA0, hV, rfl, hfz, hnd⟩ := hW
  have hA : DataW.TrodAll enc Tryz.prog W 0 (fun _ => true) true Tryz.f9.params.toList args.toList ds p := hA0
  rw [Tryz.params9] at hA hval
  obtain ⟨v0, vs0, d0, ds0, p0, q0, hargs, rfl, rfl, h0, r0⟩ := trodAll_cons hA
  obtain ⟨v1, vs1, d1, ds1, p1, q1, rfl, rfl, rfl, h1, r1⟩ := trodAll_cons r0
  obtain ⟨v2, vs2, d2, ds2, p2, q2, rfl, rfl, rfl, h2, r2⟩ := trodAll_cons r1
  obtain ⟨rfl, rfl, rfl⟩ := trodAll_nil r2
  obtain rfl : args = #[v0, v1, v2] := by cases args; simp_all
  obtain ⟨rfl, rfl⟩ := trodVars_none hV
  have hbulk : Rows.uptoBulkAll ([d0, d1, d2] ++ ([] : List (DataW H))) ≤ 1048576 := of_decide_eq_true (hcond _ rfl)
  have hd1 : Rows.uptoBulk d1 ≤ 1048576 := Nat.le_trans (bulk_part (by simp)) hbulk
  have k0 := h0
  have lt0 : ∀ x ∈ p0, x.block < W.heap.size := by obtain ⟨m, hm⟩ := k0; exact DataW.trod_lt m _ _ _ hm
  obtain ⟨s0, len0, cap0, rfl⟩ := okWide_slice Tryz.underlying42 (hval 0 42 v0 rfl rfl)
  obtain ⟨l0, w0⟩ : ∃ l, IsEvts W (.slice s0 len0 cap0) l := by obtain ⟨fuel, hf⟩ := h0; exact read_evts (v := .slice s0 len0 cap0) hf
  have k1 := h1
  have lt1 : ∀ x ∈ p1, x.block < W.heap.size := by obtain ⟨m, hm⟩ := k1; exact DataW.trod_lt m _ _ _ hm
  obtain ⟨c0, c1, c2, c3, c4, c5, c6, c7, c8, c9, c10, c11, c12, c13, c14, c15, c16, c17, vars, fu, rets, rfl, wv, wr, hsum⟩ := read_query (hval 1 94 v1 rfl rfl) h1
  have k2 := h2
  have lt2 : ∀ x ∈ p2, x.block < W.heap.size := by obtain ⟨m, hm⟩ := k2; exact DataW.trod_lt m _ _ _ hm
  obtain ⟨u2, l2, rfl, w2⟩ := read_mat_by_value (hval 2 24 v2 rfl rfl) h2
  have hN : ∀ x ∈ rets, nodesN x ≤ 1048576 := fun x hx => Nat.le_trans (nodes_mem hx) (Nat.le_trans hsum hd1)
  clear hA0 hval0 hcond
  refine (rows_walk l0 _ vars rets fu c0 c1 c2 c3 c4 c5 c6 c7 c8 c9 c10 c11 c12 c13 c14 c15 c16 c17 l2 u2 W w0 wv wr w2 hN htab).mono fun e W' ⟨he, bel⟩ => ?_
  subst he
  exact ⟨_, rfl, _, _, _, [], _, [], hW', trodAll_mk1 (shut_bool Tryz.underlying4 _), (trodAll_cons_mk (Below.trod laid_out (by kernel_rfl) (of_decide_eq_true (by kernel_rfl)) k0 bel lt0) (trodAll_cons_mk (Below.trod laid_out (by kernel_rfl) (of_decide_eq_true (by kernel_rfl)) k1 bel lt1) (trodAll_cons_mk (Below.trod laid_out (by kernel_rfl) (of_decide_eq_true (by kernel_rfl)) k2 bel lt2) trodAll_mk0))), rfl, bel.frame _, fun h => by cases h⟩

theorem rows_upto : Rows.MatchRowsUptoSaid :=
  OpenClaim.holds_of_cond 9 Tryz.f9 rfl rfl rfl rfl rfl rfl rfl ⟨rfl, rfl, rfl, rfl, rfl⟩ rfl rfl rfl rfl rfl (by kernel_rfl) Tryz.func9 (by kernel_rfl)
    (of_decide_eq_true (by kernel_rfl)) (by unfold Func.isWrapper; first | (rw [if_pos (by decide +kernel)]; kernel_rfl) | (rw [if_neg (by decide +kernel)]; exact ⟨rfl, rfl⟩))
    (fun os started H enc _ F => by rw [OpenClaim.pre_eq_preRow]; exact rows_lifted os started H enc F)

theorem rows_card : Rows.MatchRowsUptoCardSaid :=
  Claim7.holds_tied_plain_at .later [] [.data, .data, .data] true _ false
    rows_upto (fun _ h => by cases h) (by kernel_rfl) (fun _ h => by cases h) matchRowsUpto_row_tie rfl ⟨rfl, rfl⟩ (by kernel_rfl) rfl
    (fun f fn hf hfn => by
      obtain rfl : f = 9 := Option.some.inj ((show Tryz.prog.funcNamed "tidegate/tidegatelaw17.MatchRows" = some 9 by kernel_rfl).symm.trans hf) |>.symm
      obtain rfl : fn = Tryz.f9 := (Option.some.inj (Tryz.func9.symm.trans hfn)).symm
      exact ⟨by kernel_rfl, fun j t ht => by
        rw [Tryz.params9] at ht
        have hm : t ∈ [42, 94, 24] := by simpa using Array.mem_of_getElem? ht
        have hall : ([42, 94, 24].all fun u => !Tryz.prog.wantsStandIn u) = true := by kernel_rfl
        exact (show Tryz.prog.wantsStandIn t = false by simpa using List.all_eq_true.1 hall t hm)⟩)
    (by kernel_rfl)
#print axioms rows_card
end Go.Proofs.YtclpglgigpjfoaaGreatDoor
