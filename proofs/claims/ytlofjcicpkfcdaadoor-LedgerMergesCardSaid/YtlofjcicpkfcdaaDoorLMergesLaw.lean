/- The law LedgerMerges: merging is commutative and associative, and is applying the changes that lead from nothing to a ledger. No condition beyond the row's own. -/
import Derived.Test.YtlofjcicpkfcdaaDoorTie
import Derived.Test.YtlofjcicpkfcdaaDoorCards
import Derived.Test.YtlofjcicpkfcdaaDoorLopen
import Derived.Test.YtlofjcicpkfcdaaDoorLawake
import Derived.Test.YtlofjcicpkfcdaaDoorLsmall
namespace Go.Proofs.YtlofjcicpkfcdaaDoor
open Go.ChangeShapes Go.WideShapes Go.ChangeAt Go.RowKit Go.Deep

theorem small_of {l : List Ety} (h : badL l = false) : Small l := by
  unfold badL at h
  simp only [Bool.or_eq_false_iff, Bool.not_eq_false'] at h
  obtain ⟨⟨h1, h2⟩, h3⟩ := h
  refine ⟨by simpa using h2, (fewL_parts h1).1, fun x hx => ?_⟩
  rw [List.any_eq_false] at h3
  have := h3 x hx
  unfold bigN at this
  simp only [Bool.or_eq_true, decide_eq_true_eq] at this
  unfold absI
  split <;> omega
theorem merge_ok {a b : List Ety} (ha : ledErr a = 0) (hb : ledErr b = 0) (hl : a.length + b.length ≤ 4096) (hs : sumA a + sumA b ≤ 1000000) :
    mergeR a b = (sumE [] (a ++ b), 0) ∧ ledErr (sumE [] (a ++ b)) = 0 := by
  have h1 := (led_ok ha).2.1
  have h2 := (led_ok hb).2.1
  have h3 := sum_ok (L := a ++ b) (Good.app (fun x hx => (h1 x hx).1) (fun x hx => (h2 x hx).1)) (by simpa using hl) (by rw [sumA_app]; omega)
  refine ⟨?_, h3.1⟩
  unfold mergeR
  rw [if_neg (by simp [bothE, ha, hb]), h3.2]
theorem diff_nil {b : List Ety} (hb : Small b) : diffR [] b = (addsBoth b, 0) := by
  have hn : Small [] := ⟨by decide +kernel, by simp, by simp⟩
  have h := (diff_ok hn hb).1
  have hg : gapsOf [] b = b := by unfold gapsOf neg; simp; exact sum_led hb.led
  rw [hg] at h
  exact h
/-- what the law says of three small ledgers -/
structure MergesOk (a b c : List Ety) (R S : List Ety) : Prop where
  ab : mergeR a b = (R, 0)
  ba : mergeR b a = (R, 0)
  bc : mergeR b c = (sumE [] (b ++ c), 0)
  left : mergeR R c = (S, 0)
  right : mergeR a (sumE [] (b ++ c)) = (S, 0)
  diff : diffR [] b = (addsBoth b, 0)
  app : applyR a (addsBoth b) = (R, 0)
theorem merges_ok {a b c : List Ety} (ha : Small a) (hb : Small b) (hc : Small c) : ∃ R S, MergesOk a b c R S := by
  have sa := ha.sum
  have sb := hb.sum
  have sc := hc.sum
  have fa := ha.few
  have fb := hb.few
  have fc := hc.few
  have h1 := merge_ok ha.ok hb.ok (by omega) (by omega)
  have h2 := merge_ok hb.ok ha.ok (by omega) (by omega)
  have h3 := merge_ok hb.ok hc.ok (by omega) (by omega)
  have l1 := sumE_len [] (a ++ b)
  have l3 := sumE_len [] (b ++ c)
  have s1 := sumA_sum (a ++ b)
  have s3 := sumA_sum (b ++ c)
  rw [sumA_app] at s1 s3
  simp only [List.length_append, List.length_nil] at l1 l3
  have h4 := merge_ok h1.2 hc.ok (by omega) (by omega)
  have h5 := merge_ok ha.ok h3.2 (by omega) (by omega)
  have hd := adds_len b
  have h6 := apply_ok (cs := addsBoth b) ha.ok (adds_good hb.good) (by omega) (by omega)
  refine ⟨_, _, h1.1, ?_, h3.1, h4.1, ?_, diff_nil hb, ?_⟩
  · rw [h2.1, sum_eq (L := b ++ a) (M := a ++ b) fun q bs => by rw [cnt_app, cnt_app]; omega]
  · rw [h5.1, sum_eq (L := a ++ sumE [] (b ++ c)) (M := sumE [] (a ++ b) ++ c) fun q bs => by rw [cnt_app, cnt_app, sum0.2, sum0.2, cnt_app, cnt_app]; omega]
  · rw [h6.1, sum_eq (L := a ++ (addsBoth b).map ety) (M := a ++ b) fun q bs => by rw [cnt_app, cnt_app, cnt_adds]]

theorem leds_three {w : World} {b : Nat} {va vb vc : Value} {x y z : List Ety} (h0 : w.cell? ⟨b, 0, none⟩ = some va) (h1 : w.cell? ⟨b, 1, none⟩ = some vb) (h2 : w.cell? ⟨b, 2, none⟩ = some vc) (ha : IsEnts w va x) (hb : IsEnts w vb y) (hc : IsEnts w vc z) : IsLeds w (.slice (some ⟨b, 0, none⟩) 3 3) [x, y, z] :=
  ⟨_, 3, rfl, Nat.le_refl _, by decide, fun k u hk => ⟨b, 0, rfl, by
    match k, hk with
    | 0, hk => simp at hk; subst hk; exact ⟨va, ha, h0⟩
    | 1, hk => simp at hk; subst hk; exact ⟨vb, hb, h1⟩
    | 2, hk => simp at hk; subst hk; exact ⟨vc, hc, h2⟩
    | k + 3, hk => simp at hk⟩⟩

set_option maxRecDepth 100000 in
set_option maxHeartbeats 4000000 in
theorem merges_walk (a : List Ety) (va : Value) (b : List Ety) (vb : Value) (c : List Ety) (vc : Value) (w : World) (ha : IsEnts w va a) (hb : IsEnts w vb b) (hc : IsEnts w vc c) (htab : Tab w) :
    Calls Tryd.prog 6 #[va, vb, vc] w fun e w' => e = .returned (.bool true) ∧ Below w.heap.size w w' := by
  have HA := Lib.hid ha
  have HB := Lib.hid hb
  have HC := Lib.hid hc
  have HT := Lib.hid htab
  obtain ⟨A, ca, rfl, -⟩ := ha
  obtain ⟨B, cb, rfl, -⟩ := hb
  obtain ⟨C, cc, rfl, -⟩ := hc
  clear htab
  obtain ⟨t, ht⟩ : ∃ t, [a, b, c].any badL = t := ⟨_, rfl⟩
  have HS := Lib.hid ht
  clear ht
  go_enter Tryd.func6, Tryd.ntmps6
  go_wp2_with fail
  refine calls_gen fun W1 e1 => ?_
  have y0 : W1.cell? ⟨w.heap.size, 0, none⟩ = some (.slice A a.length ca) := by rw [e1]; go_simp
  have y1 : W1.cell? ⟨w.heap.size, 1, none⟩ = some (.slice B b.length cb) := by rw [e1]; go_simp
  have y2 : W1.cell? ⟨w.heap.size, 2, none⟩ = some (.slice C c.length cc) := by rw [e1]; go_simp
  have hb1 : Below w.heap.size w W1 := by rw [e1]; exact (by repeat (first | exact Below.refl _ _ | assumption | refine Below.drew ?_ | refine bel_al ?_ _ | refine bel_set ?_ (by omega) _ | refine bel_tr ?_ (by assumption)))
  clear e1
  refine (small_any [a, b, c] _ W1 (leds_three y0 y1 y2 (HA.out.stays entAt_stays hb1) (HB.out.stays entAt_stays hb1) (HC.out.stays entAt_stays hb1))).mono ?_
  rw [HS.out]
  rintro e w2 ⟨rfl, hb2⟩
  have HB2 := Lib.hid (bel_tr hb1 hb2)
  clear y0 y1 y2 hb1 hb2
  cases t with
  | true =>
    go_wp2_with fail
    refine (awake_any _ (HT.out.stays HB2.out)).mono ?_
    rintro e w3 ⟨rfl, hb3⟩
    go_wp2_with fail
    go_ret
    exact ⟨rfl, bel_tr HB2.out hb3⟩
  | false =>
    have hs := HS.out
    simp only [List.any_cons, List.any_nil, Bool.or_false, Bool.or_eq_false_iff] at hs
    obtain ⟨R, S, hm⟩ := merges_ok (small_of hs.1) (small_of hs.2.1) (small_of hs.2.2)
    have HM := Lib.hid hm
    clear hm hs
    go_wp2_with fail
    refine (merge_any a b _ _ w2 (HA.out.stays entAt_stays HB2.out) (HB.out.stays entAt_stays HB2.out) (HT.out.stays HB2.out)).mono ?_
    rw [HM.out.ab]
    rintro e w3 ⟨v3, rfl, hv3, hb3⟩
    have H3 := Lib.hid hv3
    obtain ⟨A3, c3, rfl⟩ := sl_len hv3 rfl
    have HB3 := Lib.hid (bel_tr HB2.out hb3)
    clear hv3 hb3
    go_wp2_with fail
    refine (merge_any b a _ _ w3 (HB.out.stays entAt_stays HB3.out) (HA.out.stays entAt_stays HB3.out) (HT.out.stays HB3.out)).mono ?_
    rw [HM.out.ba]
    rintro e w4 ⟨v4, rfl, hv4, hb4⟩
    have H4 := Lib.hid hv4
    have H34 := Lib.hid (H3.out.stays entAt_stays hb4)
    obtain ⟨A4, c4, rfl⟩ := sl_len hv4 rfl
    have HB4 := Lib.hid (bel_tr HB3.out hb4)
    clear hv4 hb4
    go_wp2_with fail
    refine (merge_any b c _ _ w4 (HB.out.stays entAt_stays HB4.out) (HC.out.stays entAt_stays HB4.out) (HT.out.stays HB4.out)).mono ?_
    rw [HM.out.bc]
    rintro e w5 ⟨v5, rfl, hv5, hb5⟩
    have H5 := Lib.hid hv5
    have H35 := Lib.hid (H34.out.stays entAt_stays hb5)
    have H45 := Lib.hid (H4.out.stays entAt_stays hb5)
    obtain ⟨A5, c5, rfl⟩ := sl_len hv5 rfl
    have HB5 := Lib.hid (bel_tr HB4.out hb5)
    clear hv5 hb5
    go_wp2_with fail
    refine (rsame_any R R _ _ w5 H35.out H45.out).mono ?_
    rw [decide_eq_true rfl]
    rintro e w6 ⟨rfl, hb6⟩
    have H36 := Lib.hid (H35.out.stays entAt_stays hb6)
    have H56 := Lib.hid (H5.out.stays entAt_stays hb6)
    have HB6 := Lib.hid (bel_tr HB5.out hb6)
    clear hb6
    go_wp2_with fail
    refine (merge_any R c _ _ w6 H36.out (HC.out.stays entAt_stays HB6.out) (HT.out.stays HB6.out)).mono ?_
    rw [HM.out.left]
    rintro e w7 ⟨v7, rfl, hv7, hb7⟩
    have H7 := Lib.hid hv7
    have H37 := Lib.hid (H36.out.stays entAt_stays hb7)
    have H57 := Lib.hid (H56.out.stays entAt_stays hb7)
    obtain ⟨A7, c7, rfl⟩ := sl_len hv7 rfl
    have HB7 := Lib.hid (bel_tr HB6.out hb7)
    clear hv7 hb7
    go_wp2_with fail
    refine (merge_any a (sumE [] (b ++ c)) _ _ w7 (HA.out.stays entAt_stays HB7.out) H57.out (HT.out.stays HB7.out)).mono ?_
    rw [HM.out.right]
    rintro e w8 ⟨v8, rfl, hv8, hb8⟩
    have H8 := Lib.hid hv8
    have H38 := Lib.hid (H37.out.stays entAt_stays hb8)
    have H78 := Lib.hid (H7.out.stays entAt_stays hb8)
    obtain ⟨A8, c8, rfl⟩ := sl_len hv8 rfl
    have HB8 := Lib.hid (bel_tr HB7.out hb8)
    clear hv8 hb8
    go_wp2_with fail
    refine (diff_any [] b (.slice none 0 0) _ w8 (Sl.nil _ _ _ _ _ (Nat.zero_le _)) (HB.out.stays entAt_stays HB8.out) (HT.out.stays HB8.out)).mono ?_
    rw [HM.out.diff]
    rintro e w9 ⟨v9, rfl, hv9, hb9⟩
    have H9 := Lib.hid hv9
    have H39 := Lib.hid (H38.out.stays entAt_stays hb9)
    have H79 := Lib.hid (H78.out.stays entAt_stays hb9)
    have H89 := Lib.hid (H8.out.stays entAt_stays hb9)
    obtain ⟨A9, c9, rfl⟩ := sl_len hv9 rfl
    have HB9 := Lib.hid (bel_tr HB8.out hb9)
    clear hv9 hb9
    go_wp2_with fail
    refine (apply_any a (addsBoth b) _ _ w9 (HA.out.stays entAt_stays HB9.out) H9.out (HT.out.stays HB9.out)).mono ?_
    rw [HM.out.app]
    rintro e w10 ⟨v10, rfl, hv10, hb10⟩
    have H10 := Lib.hid hv10
    have H3a := Lib.hid (H39.out.stays entAt_stays hb10)
    have H7a := Lib.hid (H79.out.stays entAt_stays hb10)
    have H8a := Lib.hid (H89.out.stays entAt_stays hb10)
    obtain ⟨A10, c10, rfl⟩ := sl_len hv10 rfl
    have HB10 := Lib.hid (bel_tr HB9.out hb10)
    clear hv10 hb10
    go_wp2_with fail
    refine (rsame_any S S _ _ w10 H7a.out H8a.out).mono ?_
    rw [decide_eq_true rfl]
    rintro e w11 ⟨rfl, hb11⟩
    have H3b := Lib.hid (H3a.out.stays entAt_stays hb11)
    have H10b := Lib.hid (H10.out.stays entAt_stays hb11)
    have HB11 := Lib.hid (bel_tr HB10.out hb11)
    clear hb11
    go_wp2_with fail
    refine (rsame_any R R _ _ w11 H10b.out H3b.out).mono ?_
    rw [decide_eq_true rfl]
    rintro e w12 ⟨rfl, hb12⟩
    have HB12 := Lib.hid (bel_tr HB11.out hb12)
    clear hb12
    go_wp2_with fail
    refine (awake_any _ (HT.out.stays HB12.out)).mono ?_
    rintro e w13 ⟨rfl, hb13⟩
    go_wp2_with fail
    go_ret
    exact ⟨rfl, bel_tr HB12.out hb13⟩
-- FRAME
set_option maxRecDepth 100000 in
theorem merges_lifted (os : Os) (started : os.Started) (H : Type) (enc : TypeId × Value → H) :
    ReturnsInHanded {} Tryd.checked os 6 .any (fun w args => (Rows.ledgerMergesSpec.pre enc Tryd.prog Tryd.f6 [] false w args ∧ laidMetH Tryd.prog theLaid w) ∧ sizedMet enc Tryd.prog Tryd.f6 (OpenSpec.ofChange Rows.ledgerMergesSpec) false w args)
      (Rows.ledgerMergesSpec.post enc Tryd.prog Tryd.f6 false true false false) := by
  refine returnsInHanded_of_change_and (C := Tryd.checked) (X := fun w _ => laidMetH Tryd.prog theLaid w) (fun _ _ _ hh h => h.of_heap hh) own_none started (by kernel_rfl) Tryd.func6
    (ChangeSpec.witness_shaped (enc := enc) (C := Tryd.checked) (os := os) (X := fun w _ => laidMetH Tryd.prog theLaid w) false (World.doorLaid Tryd.prog 400 os) #[.slice none 0 0, .slice none 0 0, .slice none 0 0] 8 rfl (World.shaped_of_RefB (by kernel_rfl) (by kernel_rfl)) (by kernel_rfl) (by kernel_rfl) (by kernel_rfl) (door_met os _)) ?_
  intro W base args ds gs before hval0 hW _ _ hL _
  have htab := tab_of_laid hL
  have hval : ∀ (j : Nat) t v, Tryd.f6.params[j]? = some t → args[j]? = some v → Value.okWide Tryd.prog W .any base t v := hval0
  have hW' := hW
  obtain ⟨p, q, hA0, hV, rfl, hfz, hnd⟩ := hW
  have hA : DataW.TrodAll enc Tryd.prog W 0 (fun _ => true) true Tryd.f6.params.toList args.toList ds p := hA0
  rw [Tryd.params6] at hA hval
  obtain ⟨v0, vs0, d0, ds0, p0, q0, hargs, rfl, rfl, h0, r0⟩ := trodAll_cons hA
  obtain ⟨v1, vs1, d1, ds1, p1, q1, rfl, rfl, rfl, h1, r1⟩ := trodAll_cons r0
  obtain ⟨v2, vs2, d2, ds2, p2, q2, rfl, rfl, rfl, h2, r2⟩ := trodAll_cons r1
  obtain ⟨rfl, rfl, rfl⟩ := trodAll_nil r2
  obtain rfl : args = #[v0, v1, v2] := by cases args; simp_all
  obtain ⟨rfl, rfl⟩ := trodVars_none hV
  have k0 := h0
  have lt0 : ∀ x ∈ p0, x.block < W.heap.size := by obtain ⟨m, hm⟩ := k0; exact DataW.trod_lt m _ _ _ hm
  obtain ⟨s0, len0, cap0, rfl⟩ := okWide_slice Tryd.underlying22 (hval 0 22 v0 rfl rfl)
  obtain ⟨l0, w0⟩ : ∃ l, IsEnts W (.slice s0 len0 cap0) l := by obtain ⟨fuel, hf⟩ := h0; exact read_ents (v := .slice s0 len0 cap0) hf
  have k1 := h1
  have lt1 : ∀ x ∈ p1, x.block < W.heap.size := by obtain ⟨m, hm⟩ := k1; exact DataW.trod_lt m _ _ _ hm
  obtain ⟨s1, len1, cap1, rfl⟩ := okWide_slice Tryd.underlying22 (hval 1 22 v1 rfl rfl)
  obtain ⟨l1, w1⟩ : ∃ l, IsEnts W (.slice s1 len1 cap1) l := by obtain ⟨fuel, hf⟩ := h1; exact read_ents (v := .slice s1 len1 cap1) hf
  have k2 := h2
  have lt2 : ∀ x ∈ p2, x.block < W.heap.size := by obtain ⟨m, hm⟩ := k2; exact DataW.trod_lt m _ _ _ hm
  obtain ⟨s2, len2, cap2, rfl⟩ := okWide_slice Tryd.underlying22 (hval 2 22 v2 rfl rfl)
  obtain ⟨l2, w2⟩ : ∃ l, IsEnts W (.slice s2 len2 cap2) l := by obtain ⟨fuel, hf⟩ := h2; exact read_ents (v := .slice s2 len2 cap2) hf
  clear hA0 hval0
  refine (merges_walk l0 _ l1 _ l2 _ W w0 w1 w2 htab).mono fun e W' ⟨he, bel⟩ => ?_
  subst he
  exact ⟨_, rfl, _, _, _, [], _, [], hW', trodAll_mk1 (shut_bool Tryd.underlying4 _), (trodAll_cons_mk (Below.trod laid_out (by kernel_rfl) (of_decide_eq_true (by kernel_rfl)) k0 bel lt0) (trodAll_cons_mk (Below.trod laid_out (by kernel_rfl) (of_decide_eq_true (by kernel_rfl)) k1 bel lt1) (trodAll_cons_mk (Below.trod laid_out (by kernel_rfl) (of_decide_eq_true (by kernel_rfl)) k2 bel lt2) trodAll_mk0))), rfl, bel.frame _, fun h => by cases h⟩

theorem merges_holds : Rows.LedgerMergesSaid :=
  OpenClaim.holds_of_wide 6 Tryd.f6 rfl rfl rfl rfl rfl rfl rfl ⟨rfl, rfl, rfl, rfl, rfl⟩ rfl rfl rfl rfl rfl (by kernel_rfl) Tryd.func6 (by kernel_rfl)
    (of_decide_eq_true (by kernel_rfl)) (by unfold Func.isWrapper; first | (rw [if_pos (by decide +kernel)]; kernel_rfl) | (rw [if_neg (by decide +kernel)]; exact ⟨rfl, rfl⟩))
    (fun os started H enc _ => merges_lifted os started H enc)

theorem merges_card : Rows.LedgerMergesCardSaid :=
  Claim7.holds_tied_plain_at .later [] [.data, .data, .data] true _ false
    merges_holds (fun _ h => by cases h) (by kernel_rfl) (fun _ h => by cases h) ledgerMerges_row_tie rfl ⟨rfl, rfl⟩ (by kernel_rfl) rfl
    (fun f fn hf hfn => by
      obtain rfl : f = 6 := Option.some.inj ((show Tryd.prog.funcNamed "tidegate/tidegatelaw41.LedgerMerges" = some 6 by kernel_rfl).symm.trans hf) |>.symm
      obtain rfl : fn = Tryd.f6 := (Option.some.inj (Tryd.func6.symm.trans hfn)).symm
      exact ⟨by kernel_rfl, fun j t ht => by
        rw [Tryd.params6] at ht
        have hm : t ∈ [22] := by simpa using Array.mem_of_getElem? ht
        have hall : ([22].all fun u => !Tryd.prog.wantsStandIn u) = true := by kernel_rfl
        exact (show Tryd.prog.wantsStandIn t = false by simpa using List.all_eq_true.1 hall t hm)⟩)
    (by kernel_rfl)
#print axioms merges_card
end Go.Proofs.YtlofjcicpkfcdaaDoor
