/- The law LedgerApplies: applying changes, and the ledger of some matches, are what the second count makes of them. No condition beyond the row's own. -/
import Derived.Test.YtlofjcicpkfcdaaGreatDoorTie
import Derived.Test.YtlofjcicpkfcdaaGreatDoorCards
import Derived.Test.YtlofjcicpkfcdaaGreatDoorLopen
import Derived.Test.YtlofjcicpkfcdaaGreatDoorLawake
import Derived.Test.YtlofjcicpkfcdaaGreatDoorLfew
import Derived.Test.YtlofjcicpkfcdaaGreatDoorLsmall
import Derived.Test.YtlofjcicpkfcdaaGreatDoorLsame
import Derived.Test.YtlofjcicpkfcdaaGreatDoorLrapp
namespace Go.Proofs.YtlofjcicpkfcdaaGreatDoor
open Go.ChangeShapes Go.WideShapes Go.ChangeAt Go.RowKit Go.Deep Go.Shelf

/-- the bindings of the first k changes -/
def takeB (cs : List Chg) (k : Nat) : List (List Bnd) := (cs.take k).map (·.bs)
theorem takeB_len {cs : List Chg} {k : Nat} (h : k ≤ cs.length) : (takeB cs k).length = k := by unfold takeB; rw [List.length_map, List.length_take]; omega
theorem takeB_succ {cs : List Chg} {k : Nat} {x : Chg} (h : cs[k]? = some x) : takeB cs (k + 1) = takeB cs k ++ [x.bs] := by unfold takeB; rw [take_snoc' h, List.map_append]; rfl

set_option maxRecDepth 100000 in
set_option maxHeartbeats 8000000 in
theorem applies_walk (l : List Ety) (vl : Value) (cs : List Chg) (vc : Value) (q : Int) (w : World) (hl : IsEnts w vl l) (hc : IsChgs w vc cs) (htab : Tab w) :
    Calls Tryz.prog 3 #[vl, vc, .int .i64 q] w fun e w' => e = .returned (.bool true) ∧ Below w.heap.size w w' := by
  have HL := Lib.hid hl
  have HC := Lib.hid hc
  have HT := Lib.hid htab
  obtain ⟨A, ca, rfl, -⟩ := hl
  obtain ⟨B, cb, rfl, hc1, hc2, hcat⟩ := hc
  have hn := len_i64 hc1 hc2
  have HAT := Lib.hid hcat
  obtain ⟨j0, hj0, hy0, hy1, hy2⟩ := info_parts info_mat
  clear htab hcat hc1 hc2
  obtain ⟨t1, ht1⟩ : ∃ t, fewL l = t := ⟨_, rfl⟩
  obtain ⟨t2, ht2⟩ : ∃ t, fewC cs = t := ⟨_, rfl⟩
  have HS1 := Lib.hid ht1
  have HS2 := Lib.hid ht2
  clear ht1 ht2
  go_enter Tryz.func3, Tryz.ntmps3
  go_wp2_with fail
  refine (rfew_any l _ w HL.out).mono ?_
  rw [HS1.out]
  rintro e w2 ⟨rfl, rfl⟩
  cases t1 with
  | false =>
    go_wp2_with fail
    refine (awake_any _ HT.out).mono ?_
    rintro e w3 ⟨rfl, hb3⟩
    go_wp2_with fail
    go_ret
    exact ⟨rfl, hb3⟩
  | true =>
  go_wp2_with fail
  refine (fewC_any cs _ w HC.out).mono ?_
  rw [HS2.out]
  rintro e w3 ⟨rfl, hb3⟩
  have HB3 := Lib.hid hb3
  clear hb3
  cases t2 with
  | false =>
    go_wp2_with fail
    refine (awake_any _ (HT.out.stays HB3.out)).mono ?_
    rintro e w4 ⟨rfl, hb4⟩
    go_wp2_with fail
    go_ret
    exact ⟨rfl, bel_tr HB3.out hb4⟩
  | true =>
  have hn12 : cs.length ≤ 12 := by
    have := HS2.out
    unfold fewC at this
    rw [Bool.and_eq_true] at this
    have := of_decide_eq_true this.1
    omega
  have hl12 : l.length ≤ 12 := (fewL_parts HS1.out).1
  go_wp2_with fail
  go_loopw [7, 29] (fun av i wr => ∃ (k : Nat) (vs : List Value), k ≤ cs.length ∧ i = .int .i64 k ∧ Hid (wr.ownsRow w3.heap.size 30 1 av k vs ∧ Means MatAt 1 w vs (takeB cs k) ∧ Below w3.heap.size w3 wr)) (fun _ i _ => cs.length - (intOf i).toNat)
  case atStart => exact ⟨0, [], Nat.zero_le _, rfl, Lib.hid ⟨⟨by simp, .inl ⟨rfl, rfl⟩⟩, Means.nil, Below.refl _ _⟩⟩
  case round =>
    obtain ⟨k, vs, hk, rfl, hI⟩ := hrel
    have hbr := bel_tr HB3.out hI.out.2.2
    by_cases hlt : k < cs.length
    · have hk' : (k : Int) < (cs.length : Int) := by omega
      obtain ⟨b, o, rfl, v', hv', c0, c1, c2⟩ := HAT.out k cs[k] (List.getElem?_eq_getElem hlt)
      replace c0 := cell_stays hbr c0
      replace c1 := cell_stays hbr c1
      replace c2 := cell_stays hbr c2
      have hget := Lib.hid (List.getElem?_eq_getElem hlt)
      obtain ⟨x, hx⟩ : ∃ x, x = cs[k] := ⟨_, rfl⟩
      rw [← hx] at hget c0 c1 hv'
      have HV := Lib.hid hv'
      obtain ⟨A', c', rfl, -⟩ := hv'
      have hbl : b < wr.heap.size := World.block_lt_of_cell? wr ⟨b, _, none⟩ c0
      have hnb : b ≠ wr.heap.size := by omega
      have hnb' : wr.heap.size ≠ b := by omega
      clear hx
      have HBR := Lib.hid hbr
      have hszr := hI.out.2.2.size
      go_wp2_with (at_builtin; refine wpList_app _ rfl (.tmp 33) (.tmp 36) 27 rfl w3.heap.size 30 j0 _ 1 24 Tryz.underlying27 hj0 hy0 hy1 hy2 rfl (by decide) u7 k vs rfl (ownsRow_below hI.out.1 (bel_al (bel_one _ _) _)) (some ⟨wr.heap.size + 1, 0, none⟩) 1 1 [.slice A' x.bs.length c'] rfl (src_new' _ [.slice A' x.bs.length c'] _ 1 1 _ (by simp) rfl (by simp [Value.oneCell'])) (by unfold maxLen; omega) (by omega) (by simp; omega) ?_; intro v7 w7 hown7 hg7 hloc7)
      have hb7 : Below w3.heap.size w3 w7 := (bel_al (bel_al hI.out.2.2 _) _).trans (grown_below hg7 (by have := hI.out.2.2.size; simp; omega) (fun g h => (ownsRow_lt hI.out.1 h).1))
      have HMA := Lib.hid hown7
      have HB7 := Lib.hid hb7
      clear hown7 hg7 hloc7 hb7
      go_wp2_with fail
      go_roundw
      case rel => exact ⟨k + 1, _, by omega, by go_num, Lib.hid ⟨HMA.out, by rw [takeB_succ hget.out]; exact hI.out.2.1.app (matMean HV.out), HB7.out⟩⟩
      case measure => simp [intOf]; omega
    · have hk' : ¬ (k : Int) < (cs.length : Int) := by omega
      have hke : k = cs.length := by omega
      subst hke
      have hlen := takeB_len (Nat.le_refl cs.length)
      have HM : Hid (IsMats wr u7 (takeB cs cs.length)) := Lib.hid (sl_of_means hI.out.2.1 hbr (by rw [hlen]; exact hI.out.1))
      obtain ⟨A7, c7, hv7⟩ := sl_len HM.out hlen
      subst hv7
      have HB := Lib.hid hbr
      have hbs : (takeB cs cs.length).length ≤ 12 := by omega
      obtain ⟨bs, hbe⟩ : ∃ bs, takeB cs cs.length = bs := ⟨_, rfl⟩
      rw [hbe] at HM hbs
      clear hI hbr hbe hlen
      have hap := fun W (hW : Below wr.heap.size wr W) => apply_any l cs _ _ W (HL.out.stays entAt_stays (bel_tr HB.out hW)) (HC.out.stays chgAt_stays (bel_tr HB.out hW)) (HT.out.stays (bel_tr HB.out hW))
      have hrap := fun W (hW : Below wr.heap.size wr W) => rapply_any l cs _ _ W (HL.out.stays entAt_stays (bel_tr HB.out hW)) (HC.out.stays chgAt_stays (bel_tr HB.out hW)) (by omega) (by omega)
      have hof := fun W (hW : Below wr.heap.size wr W) => of_any q bs _ W (HM.out.stays matAt_stays hW) (by omega)
      have hrof := fun W (hW : Below wr.heap.size wr W) => rof_any q bs _ W (HM.out.stays matAt_stays hW) (by omega)
      obtain ⟨⟨R, e1⟩, hR⟩ : ∃ r, applyR l cs = r := ⟨_, rfl⟩
      obtain ⟨⟨S, e2⟩, hS⟩ : ∃ r, ofR q bs = r := ⟨_, rfl⟩
      rw [hR] at hap hrap
      rw [hS] at hof hrof
      unfold LedRet at hap hrap hof hrof
      have HAP := Lib.hid hap
      have HRAP := Lib.hid hrap
      have HOF := Lib.hid hof
      have HROF := Lib.hid hrof
      clear hap hrap hof hrof hR hS
      go_wp2_with fail
      refine (HAP.out wr (Below.refl _ _)).mono ?_
      rintro e w4 ⟨v4, rfl, hv4, hb4⟩
      have H4 := Lib.hid hv4
      obtain ⟨A4, c4, rfl⟩ := sl_len hv4 rfl
      have HB4 := Lib.hid hb4
      clear hv4 hb4
      go_wp2_with fail
      refine (HRAP.out w4 HB4.out).mono ?_
      rintro e w5 ⟨v5, rfl, hv5, hb5⟩
      have H5 := Lib.hid hv5
      have H45 := Lib.hid (H4.out.stays entAt_stays hb5)
      obtain ⟨A5, c5, rfl⟩ := sl_len hv5 rfl
      have HB5 := Lib.hid (bel_tr HB4.out hb5)
      clear hv5 hb5
      go_wp2_with fail
      refine (HOF.out w5 HB5.out).mono ?_
      rintro e w6 ⟨v6, rfl, hv6, hb6⟩
      have H6 := Lib.hid hv6
      have H46 := Lib.hid (H45.out.stays entAt_stays hb6)
      have H56 := Lib.hid (H5.out.stays entAt_stays hb6)
      obtain ⟨A6, c6, rfl⟩ := sl_len hv6 rfl
      have HB6 := Lib.hid (bel_tr HB5.out hb6)
      clear hv6 hb6
      go_wp2_with fail
      refine (HROF.out w6 HB6.out).mono ?_
      rintro e w7 ⟨v7, rfl, hv7, hb7⟩
      have H7 := Lib.hid hv7
      have H47 := Lib.hid (H46.out.stays entAt_stays hb7)
      have H57 := Lib.hid (H56.out.stays entAt_stays hb7)
      have H67 := Lib.hid (H6.out.stays entAt_stays hb7)
      obtain ⟨A7', c7', rfl⟩ := sl_len hv7 rfl
      have HB7 := Lib.hid (bel_tr HB6.out hb7)
      clear hv7 hb7
      go_wp2_with fail
      refine (lcheck_any l _ w7 (HL.out.stays entAt_stays (bel_tr HB.out HB7.out))).mono ?_
      rintro e w8 ⟨rfl, hb8⟩
      have HB78 := Lib.hid hb8
      have HB8 := Lib.hid (bel_tr HB7.out hb8)
      clear hb8
      go_wp2_with fail
      refine (rlcheck_any l _ w8 (HL.out.stays entAt_stays (bel_tr HB.out HB8.out))).mono ?_
      rintro e w9 ⟨rfl, hb9⟩
      have HB79 := Lib.hid (bel_tr HB78.out hb9)
      have HB9 := Lib.hid (bel_tr HB8.out hb9)
      clear hb9
      go_wp2_with fail
      refine (rsame_any R R _ _ w9 (H47.out.stays entAt_stays HB79.out) (H57.out.stays entAt_stays HB79.out)).mono ?_
      rw [decide_eq_true rfl]
      rintro e w10 ⟨rfl, hb10⟩
      have HB710 := Lib.hid (bel_tr HB79.out hb10)
      have HB10 := Lib.hid (bel_tr HB9.out hb10)
      clear hb10
      go_wp2_with fail
      refine (rsame_any S S _ _ w10 (H67.out.stays entAt_stays HB710.out) (H7.out.stays entAt_stays HB710.out)).mono ?_
      rw [decide_eq_true rfl]
      rintro e w11 ⟨rfl, hb11⟩
      have HB11 := Lib.hid (bel_tr HB.out (bel_tr HB10.out hb11))
      clear hb11
      go_wp2_with fail
      refine (awake_any _ (HT.out.stays HB11.out)).mono ?_
      rintro e w12 ⟨rfl, hb12⟩
      go_wp2_with fail
      go_ret
      exact ⟨rfl, bel_tr HB11.out hb12⟩
-- FRAME
set_option maxRecDepth 100000 in
theorem applies_lifted (os : Os) (started : os.Started) (H : Type) (enc : TypeId × Value → H) :
    ReturnsInHanded {} Tryz.checked os 3 .any (fun w args => (Rows.ledgerAppliesSpec.pre enc Tryz.prog Tryz.f3 [] false w args ∧ laidMetH Tryz.prog theLaid w) ∧ sizedMet enc Tryz.prog Tryz.f3 (OpenSpec.ofChange Rows.ledgerAppliesSpec) false w args)
      (Rows.ledgerAppliesSpec.post enc Tryz.prog Tryz.f3 false true false false) := by
  refine returnsInHanded_of_change_and (C := Tryz.checked) (X := fun w _ => laidMetH Tryz.prog theLaid w) (fun _ _ _ hh h => h.of_heap hh) own_none started (by kernel_rfl) Tryz.func3
    (ChangeSpec.witness_shaped (enc := enc) (C := Tryz.checked) (os := os) (X := fun w _ => laidMetH Tryz.prog theLaid w) false (World.doorLaid Tryz.prog 400 os) #[.slice none 0 0, .slice none 0 0, .int .i64 0] 8 rfl (World.shaped_of_RefB (by kernel_rfl) (by kernel_rfl)) (by kernel_rfl) (by kernel_rfl) (by kernel_rfl) (door_met os _)) ?_
  intro W base args ds gs before hval0 hW _ _ hL _
  have htab := tab_of_laid hL
  have hval : ∀ (j : Nat) t v, Tryz.f3.params[j]? = some t → args[j]? = some v → Value.okWide Tryz.prog W .any base t v := hval0
  have hW' := hW
  obtain ⟨p, q, hA0, hV, rfl, hfz, hnd⟩ := hW
  have hA : DataW.TrodAll enc Tryz.prog W 0 (fun _ => true) true Tryz.f3.params.toList args.toList ds p := hA0
  rw [Tryz.params3] at hA hval
  obtain ⟨v0, vs0, d0, ds0, p0, q0, hargs, rfl, rfl, h0, r0⟩ := trodAll_cons hA
  obtain ⟨v1, vs1, d1, ds1, p1, q1, rfl, rfl, rfl, h1, r1⟩ := trodAll_cons r0
  obtain ⟨v2, vs2, d2, ds2, p2, q2, rfl, rfl, rfl, h2, r2⟩ := trodAll_cons r1
  obtain ⟨rfl, rfl, rfl⟩ := trodAll_nil r2
  obtain rfl : args = #[v0, v1, v2] := by cases args; simp_all
  obtain ⟨rfl, rfl⟩ := trodVars_none hV
  have k0 := h0
  have lt0 : ∀ x ∈ p0, x.block < W.heap.size := by obtain ⟨m, hm⟩ := k0; exact DataW.trod_lt m _ _ _ hm
  obtain ⟨s0, len0, cap0, rfl⟩ := okWide_slice Tryz.underlying22 (hval 0 22 v0 rfl rfl)
  obtain ⟨l0, w0⟩ : ∃ l, IsEnts W (.slice s0 len0 cap0) l := by obtain ⟨fuel, hf⟩ := h0; exact read_ents (v := .slice s0 len0 cap0) hf
  have k1 := h1
  have lt1 : ∀ x ∈ p1, x.block < W.heap.size := by obtain ⟨m, hm⟩ := k1; exact DataW.trod_lt m _ _ _ hm
  obtain ⟨s1, len1, cap1, rfl⟩ := okWide_slice Tryz.underlying23 (hval 1 23 v1 rfl rfl)
  obtain ⟨l1, w1⟩ : ∃ l, IsChgs W (.slice s1 len1 cap1) l := by obtain ⟨fuel, hf⟩ := h1; exact read_chgs (v := .slice s1 len1 cap1) hf
  have k2 := h2
  have lt2 : ∀ x ∈ p2, x.block < W.heap.size := by obtain ⟨m, hm⟩ := k2; exact DataW.trod_lt m _ _ _ hm
  obtain ⟨a2, e2⟩ : ∃ a, v2 = .int .i64 a := by obtain ⟨a, e, _⟩ := open_int Tryz.underlying3 (hval 2 3 v2 rfl rfl) h2; exact ⟨a, e⟩
  subst e2
  clear hA0 hval0
  refine (applies_walk l0 _ l1 _ a2 W w0 w1 htab).mono fun e W' ⟨he, bel⟩ => ?_
  subst he
  exact ⟨_, rfl, _, _, _, [], _, [], hW', trodAll_mk1 (shut_bool Tryz.underlying4 _), (trodAll_cons_mk (Below.trod laid_out (by kernel_rfl) (of_decide_eq_true (by kernel_rfl)) k0 bel lt0) (trodAll_cons_mk (Below.trod laid_out (by kernel_rfl) (of_decide_eq_true (by kernel_rfl)) k1 bel lt1) (trodAll_cons_mk (Below.trod laid_out (by kernel_rfl) (of_decide_eq_true (by kernel_rfl)) k2 bel lt2) trodAll_mk0))), rfl, bel.frame _, fun h => by cases h⟩

theorem applies_holds : Rows.LedgerAppliesSaid :=
  OpenClaim.holds_of_wide 3 Tryz.f3 rfl rfl rfl rfl rfl rfl rfl ⟨rfl, rfl, rfl, rfl, rfl⟩ rfl rfl rfl rfl rfl (by kernel_rfl) Tryz.func3 (by kernel_rfl)
    (of_decide_eq_true (by kernel_rfl)) (by unfold Func.isWrapper; first | (rw [if_pos (by decide +kernel)]; kernel_rfl) | (rw [if_neg (by decide +kernel)]; exact ⟨rfl, rfl⟩))
    (fun os started H enc _ => applies_lifted os started H enc)

theorem applies_card : Rows.LedgerAppliesCardSaid :=
  Claim7.holds_tied_plain_at .later [] [.data, .data, .data] true _ false
    applies_holds (fun _ h => by cases h) (by kernel_rfl) (fun _ h => by cases h) ledgerApplies_row_tie rfl ⟨rfl, rfl⟩ (by kernel_rfl) rfl
    (fun f fn hf hfn => by
      obtain rfl : f = 3 := Option.some.inj ((show Tryz.prog.funcNamed "tidegate/tidegatelaw41.LedgerApplies" = some 3 by kernel_rfl).symm.trans hf) |>.symm
      obtain rfl : fn = Tryz.f3 := (Option.some.inj (Tryz.func3.symm.trans hfn)).symm
      exact ⟨by kernel_rfl, fun j t ht => by
        rw [Tryz.params3] at ht
        have hm : t ∈ [22, 23, 3] := by simpa using Array.mem_of_getElem? ht
        have hall : ([22, 23, 3].all fun u => !Tryz.prog.wantsStandIn u) = true := by kernel_rfl
        exact (show Tryz.prog.wantsStandIn t = false by simpa using List.all_eq_true.1 hall t hm)⟩)
    (by kernel_rfl)
#print axioms applies_card
end Go.Proofs.YtlofjcicpkfcdaaGreatDoor
