/- The law LedgerCompares: Difference, Merge, Standing and Once return the results or errors of the reference. No condition beyond the row's own. -/
import Derived.Test.YtlofjcicpkfcdaaDoorTie
import Derived.Test.YtlofjcicpkfcdaaDoorCards
import Derived.Test.YtlofjcicpkfcdaaDoorLopen
import Derived.Test.YtlofjcicpkfcdaaDoorLawake
import Derived.Test.YtlofjcicpkfcdaaDoorLfew
import Derived.Test.YtlofjcicpkfcdaaDoorLrchg
namespace Go.Proofs.YtlofjcicpkfcdaaDoor
open Go.ChangeShapes Go.WideShapes Go.ChangeAt Go.RowKit Go.Deep

set_option maxRecDepth 100000 in
set_option maxHeartbeats 4000000 in
theorem compares_walk (a : List Ety) (va : Value) (b : List Ety) (vb : Value) (q : Int) (w : World) (ha : IsEnts w va a) (hb : IsEnts w vb b) (htab : Tab w) :
    Calls Tryd.prog 5 #[va, vb, .int .i64 q] w fun e w' => e = .returned (.bool true) ∧ Below w.heap.size w w' := by
  have HA := Lib.hid ha
  have HB := Lib.hid hb
  have HT := Lib.hid htab
  obtain ⟨A, ca, rfl, -⟩ := ha
  obtain ⟨B, cb, rfl, -⟩ := hb
  clear htab
  obtain ⟨t1, ht1⟩ : ∃ t, fewL a = t := ⟨_, rfl⟩
  obtain ⟨t2, ht2⟩ : ∃ t, fewL b = t := ⟨_, rfl⟩
  have HS1 := Lib.hid ht1
  have HS2 := Lib.hid ht2
  clear ht1 ht2
  cases t1 with
  | false =>
    go_enter Tryd.func5, Tryd.ntmps5
    go_wp2_with fail
    refine (rfew_any a _ w HA.out).mono ?_
    rw [HS1.out]
    rintro e w1 ⟨rfl, rfl⟩
    go_wp2_with fail
    refine (awake_any _ HT.out).mono ?_
    rintro e w3 ⟨rfl, hb3⟩
    go_wp2_with fail
    go_ret
    exact ⟨rfl, hb3⟩
  | true =>
  cases t2 with
  | false =>
    go_enter Tryd.func5, Tryd.ntmps5
    go_wp2_with fail
    refine (rfew_any a _ w HA.out).mono ?_
    rw [HS1.out]
    rintro e w1 ⟨rfl, rfl⟩
    go_wp2_with fail
    refine (rfew_any b _ w HB.out).mono ?_
    rw [HS2.out]
    rintro e w1 ⟨rfl, rfl⟩
    go_wp2_with fail
    refine (awake_any _ HT.out).mono ?_
    rintro e w3 ⟨rfl, hb3⟩
    go_wp2_with fail
    go_ret
    exact ⟨rfl, hb3⟩
  | true =>
  have hal : a.length ≤ 100 := by have := (fewL_parts HS1.out).1; omega
  have hbl : b.length ≤ 100 := by have := (fewL_parts HS2.out).1; omega
  obtain ⟨⟨D, d1⟩, hD⟩ : ∃ r, diffR a b = r := ⟨_, rfl⟩
  obtain ⟨⟨M, m1⟩, hM⟩ : ∃ r, mergeR a b = r := ⟨_, rfl⟩
  obtain ⟨⟨S, s1⟩, hS⟩ : ∃ r, standR a q = r := ⟨_, rfl⟩
  obtain ⟨⟨O, o1⟩, hO⟩ : ∃ r, onceR a = r := ⟨_, rfl⟩
  have HD := Lib.hid hD
  have HM := Lib.hid hM
  have HSD := Lib.hid hS
  have HO := Lib.hid hO
  clear hD hM hS hO
  go_enter Tryd.func5, Tryd.ntmps5
  go_wp2_with fail
  refine (rfew_any a _ w HA.out).mono ?_
  rw [HS1.out]
  rintro e w1 ⟨rfl, rfl⟩
  go_wp2_with fail
  refine (rfew_any b _ w HB.out).mono ?_
  rw [HS2.out]
  rintro e w1 ⟨rfl, rfl⟩
  go_wp2_with fail
  refine (diff_any a b _ _ w HA.out HB.out HT.out).mono ?_
  rw [HD.out]
  rintro e w3 ⟨v3, rfl, hv3, hb3⟩
  have H3 := Lib.hid hv3
  obtain ⟨A3, c3, rfl⟩ := sl_len hv3 rfl
  have HB3 := Lib.hid hb3
  clear hv3 hb3
  go_wp2_with fail
  refine (rdiff_any a b _ _ w3 (HA.out.stays entAt_stays HB3.out) (HB.out.stays entAt_stays HB3.out) hal hbl).mono ?_
  rw [HD.out]
  rintro e w4 ⟨v4, rfl, hv4, hb4⟩
  have H4 := Lib.hid hv4
  have H3a := Lib.hid (H3.out.stays chgAt_stays hb4)
  obtain ⟨A4, c4, rfl⟩ := sl_len hv4 rfl
  have HB4 := Lib.hid (bel_tr HB3.out hb4)
  clear hv4 hb4
  go_wp2_with fail
  refine (merge_any a b _ _ w4 (HA.out.stays entAt_stays HB4.out) (HB.out.stays entAt_stays HB4.out) (HT.out.stays HB4.out)).mono ?_
  rw [HM.out]
  rintro e w5 ⟨v5, rfl, hv5, hb5⟩
  have H5 := Lib.hid hv5
  obtain ⟨A5, c5, rfl⟩ := sl_len hv5 rfl
  have HB5 := Lib.hid (bel_tr HB4.out hb5)
  have HX5 := Lib.hid hb5
  clear hv5 hb5
  go_wp2_with fail
  refine (rmerge_any a b _ _ w5 (HA.out.stays entAt_stays HB5.out) (HB.out.stays entAt_stays HB5.out) hal hbl).mono ?_
  rw [HM.out]
  rintro e w6 ⟨v6, rfl, hv6, hb6⟩
  have H6 := Lib.hid hv6
  obtain ⟨A6, c6, rfl⟩ := sl_len hv6 rfl
  have HB6 := Lib.hid (bel_tr HB5.out hb6)
  have HX6 := Lib.hid hb6
  clear hv6 hb6
  go_wp2_with fail
  refine (standing_any a q _ w6 (HA.out.stays entAt_stays HB6.out)).mono ?_
  rw [HSD.out]
  rintro e w7 ⟨v7, rfl, hv7, hb7⟩
  have H7 := Lib.hid hv7
  obtain ⟨A7, c7, rfl⟩ := sl_len hv7 rfl
  have HB7 := Lib.hid (bel_tr HB6.out hb7)
  have HX7 := Lib.hid hb7
  clear hv7 hb7
  go_wp2_with fail
  refine (rstanding_any a q _ w7 (HA.out.stays entAt_stays HB7.out) hal).mono ?_
  rw [HSD.out]
  rintro e w8 ⟨v8, rfl, hv8, hb8⟩
  have H8 := Lib.hid hv8
  obtain ⟨A8, c8, rfl⟩ := sl_len hv8 rfl
  have HB8 := Lib.hid (bel_tr HB7.out hb8)
  have HX8 := Lib.hid hb8
  clear hv8 hb8
  go_wp2_with fail
  refine (once_any a _ w8 (HA.out.stays entAt_stays HB8.out)).mono ?_
  rw [HO.out]
  rintro e w9 ⟨rfl, hb9⟩
  have HB9 := Lib.hid (bel_tr HB8.out hb9)
  have HX9 := Lib.hid hb9
  clear hb9
  go_wp2_with fail
  refine (ronce_any a _ w9 (HA.out.stays entAt_stays HB9.out)).mono ?_
  rw [HO.out]
  rintro e w10 ⟨rfl, hb10⟩
  have HB10 := Lib.hid (bel_tr HB9.out hb10)
  have HX10 := Lib.hid (bel_tr HX9.out hb10)
  have HX7a := Lib.hid (bel_tr HX8.out HX10.out)
  have HX6a := Lib.hid (bel_tr HX7.out HX7a.out)
  have HX5a := Lib.hid (bel_tr HX6.out HX6a.out)
  have HX4a := Lib.hid (bel_tr HX5.out HX5a.out)
  clear hb10
  go_wp2_with fail
  refine (rsameC_any D D _ _ w10 (H3a.out.stays chgAt_stays HX4a.out) (H4.out.stays chgAt_stays HX4a.out)).mono ?_
  rw [decide_eq_true rfl]
  rintro e w11 ⟨rfl, hb11⟩
  have HB11 := Lib.hid hb11
  clear hb11
  go_wp2_with fail
  refine (rsame_any M M _ _ w11 (H5.out.stays entAt_stays (bel_tr HX5a.out HB11.out)) (H6.out.stays entAt_stays (bel_tr HX6a.out HB11.out))).mono ?_
  rw [decide_eq_true rfl]
  rintro e w12 ⟨rfl, hb12⟩
  have HB12 := Lib.hid (bel_tr HB11.out hb12)
  clear hb12
  go_wp2_with fail
  refine (rsameM_any S S _ _ w12 (H7.out.stays matAt_stays (bel_tr HX7a.out HB12.out)) (H8.out.stays matAt_stays (bel_tr HX10.out HB12.out))).mono ?_
  rw [decide_eq_true rfl]
  rintro e w13 ⟨rfl, hb13⟩
  have HB13 := Lib.hid (bel_tr HB12.out hb13)
  have HB14 := Lib.hid (bel_tr HB10.out HB13.out)
  clear hb13
  go_wp2_with fail
  refine (awake_any _ (HT.out.stays HB14.out)).mono ?_
  rintro e w15 ⟨rfl, hb15⟩
  go_wp2_with fail
  go_ret
  exact ⟨rfl, bel_tr HB14.out hb15⟩
-- FRAME
set_option maxRecDepth 100000 in
theorem compares_lifted (os : Os) (started : os.Started) (H : Type) (enc : TypeId × Value → H) :
    ReturnsInHanded {} Tryd.checked os 5 .any (fun w args => (Rows.ledgerComparesSpec.pre enc Tryd.prog Tryd.f5 [] false w args ∧ laidMetH Tryd.prog theLaid w) ∧ sizedMet enc Tryd.prog Tryd.f5 (OpenSpec.ofChange Rows.ledgerComparesSpec) false w args)
      (Rows.ledgerComparesSpec.post enc Tryd.prog Tryd.f5 false true false false) := by
  refine returnsInHanded_of_change_and (C := Tryd.checked) (X := fun w _ => laidMetH Tryd.prog theLaid w) (fun _ _ _ hh h => h.of_heap hh) own_none started (by kernel_rfl) Tryd.func5
    (ChangeSpec.witness_shaped (enc := enc) (C := Tryd.checked) (os := os) (X := fun w _ => laidMetH Tryd.prog theLaid w) false (World.doorLaid Tryd.prog 400 os) #[.slice none 0 0, .slice none 0 0, .int .i64 0] 8 rfl (World.shaped_of_RefB (by kernel_rfl) (by kernel_rfl)) (by kernel_rfl) (by kernel_rfl) (by kernel_rfl) (door_met os _)) ?_
  intro W base args ds gs before hval0 hW _ _ hL _
  have htab := tab_of_laid hL
  have hval : ∀ (j : Nat) t v, Tryd.f5.params[j]? = some t → args[j]? = some v → Value.okWide Tryd.prog W .any base t v := hval0
  have hW' := hW
  obtain ⟨p, q, hA0, hV, rfl, hfz, hnd⟩ := hW
  have hA : DataW.TrodAll enc Tryd.prog W 0 (fun _ => true) true Tryd.f5.params.toList args.toList ds p := hA0
  rw [Tryd.params5] at hA hval
  obtain ⟨v0, vs0, d0, ds0, p0, q0, hargs, rfl, rfl, h0, r0⟩ := trodAll_cons hA
  obtain ⟨v1, vs1, d1, ds1, p1, q1, rfl, rfl, rfl, h1, r1⟩ := trodAll_cons r0
  obtain ⟨v2, vs2, d2, ds2, p2, q2, rfl, rfl, rfl, h2, r2⟩ := trodAll_cons r1
  obtain ⟨rfl, rfl, rfl⟩ := trodAll_nil r2
  obtain rfl : args = #[v0, v1, v2] := by cases args; simp_all
  obtain ⟨rfl, rfl⟩ := trodVars_none hV
  have k0 := h0
  have lt0 : ∀ x ∈ p0, x.block < W.heap.size := by obtain ⟨m, hm⟩ := k0; exact DataW.trod_lt m _ _ _ hm
  obtain ⟨s0, len0, cap0, rfl⟩ := okWide_slice Tryd.underlying22 (hval 0 22 v0 rfl rfl)
  obtain ⟨l0, w0⟩ : ∃ l, IsEnts W (.slice s0 len0 cap0) l := by obtain ⟨fuel, hf⟩ := h0; exact read_ents (v := .slice s0 len0 cap0) hf
  have k1 := h1
  have lt1 : ∀ x ∈ p1, x.block < W.heap.size := by obtain ⟨m, hm⟩ := k1; exact DataW.trod_lt m _ _ _ hm
  obtain ⟨s1, len1, cap1, rfl⟩ := okWide_slice Tryd.underlying22 (hval 1 22 v1 rfl rfl)
  obtain ⟨l1, w1⟩ : ∃ l, IsEnts W (.slice s1 len1 cap1) l := by obtain ⟨fuel, hf⟩ := h1; exact read_ents (v := .slice s1 len1 cap1) hf
  have k2 := h2
  have lt2 : ∀ x ∈ p2, x.block < W.heap.size := by obtain ⟨m, hm⟩ := k2; exact DataW.trod_lt m _ _ _ hm
  obtain ⟨a2, e2⟩ : ∃ a, v2 = .int .i64 a := by obtain ⟨a, e, _⟩ := open_int Tryd.underlying3 (hval 2 3 v2 rfl rfl) h2; exact ⟨a, e⟩
  subst e2
  clear hA0 hval0
  refine (compares_walk l0 _ l1 _ a2 W w0 w1 htab).mono fun e W' ⟨he, bel⟩ => ?_
  subst he
  exact ⟨_, rfl, _, _, _, [], _, [], hW', trodAll_mk1 (shut_bool Tryd.underlying4 _), (trodAll_cons_mk (Below.trod laid_out (by kernel_rfl) (of_decide_eq_true (by kernel_rfl)) k0 bel lt0) (trodAll_cons_mk (Below.trod laid_out (by kernel_rfl) (of_decide_eq_true (by kernel_rfl)) k1 bel lt1) (trodAll_cons_mk (Below.trod laid_out (by kernel_rfl) (of_decide_eq_true (by kernel_rfl)) k2 bel lt2) trodAll_mk0))), rfl, bel.frame _, fun h => by cases h⟩

theorem compares_holds : Rows.LedgerComparesSaid :=
  OpenClaim.holds_of_wide 5 Tryd.f5 rfl rfl rfl rfl rfl rfl rfl ⟨rfl, rfl, rfl, rfl, rfl⟩ rfl rfl rfl rfl rfl (by kernel_rfl) Tryd.func5 (by kernel_rfl)
    (of_decide_eq_true (by kernel_rfl)) (by unfold Func.isWrapper; first | (rw [if_pos (by decide +kernel)]; kernel_rfl) | (rw [if_neg (by decide +kernel)]; exact ⟨rfl, rfl⟩))
    (fun os started H enc _ => compares_lifted os started H enc)

theorem compares_card : Rows.LedgerComparesCardSaid :=
  Claim7.holds_tied_plain_at .later [] [.data, .data, .data] true _ false
    compares_holds (fun _ h => by cases h) (by kernel_rfl) (fun _ h => by cases h) ledgerCompares_row_tie rfl ⟨rfl, rfl⟩ (by kernel_rfl) rfl
    (fun f fn hf hfn => by
      obtain rfl : f = 5 := Option.some.inj ((show Tryd.prog.funcNamed "tidegate/tidegatelaw41.LedgerCompares" = some 5 by kernel_rfl).symm.trans hf) |>.symm
      obtain rfl : fn = Tryd.f5 := (Option.some.inj (Tryd.func5.symm.trans hfn)).symm
      exact ⟨by kernel_rfl, fun j t ht => by
        rw [Tryd.params5] at ht
        have hm : t ∈ [22, 3] := by simpa using Array.mem_of_getElem? ht
        have hall : ([22, 3].all fun u => !Tryd.prog.wantsStandIn u) = true := by kernel_rfl
        exact (show Tryd.prog.wantsStandIn t = false by simpa using List.all_eq_true.1 hall t hm)⟩)
    (by kernel_rfl)
#print axioms compares_card
end Go.Proofs.YtlofjcicpkfcdaaDoor
