/- The law MatchChecks: Check, Span and Compare return the results or errors of the reference for all matches. No condition beyond the row's own. -/
import Derived.Test.YtclpglgigpjfoaaGreatDoorTie
import Derived.Test.YtclpglgigpjfoaaGreatDoorCards
import Derived.Test.YtclpglgigpjfoaaGreatDoorMread
import Derived.Test.YtclpglgigpjfoaaGreatDoorMawake
import Derived.Test.YtclpglgigpjfoaaGreatDoorMspan
import Derived.Test.YtclpglgigpjfoaaGreatDoorMfew
import Derived.Test.YtclpglgigpjfoaaGreatDoorKref
namespace Go.Proofs.YtclpglgigpjfoaaGreatDoor
open Go.ChangeShapes Go.WideShapes Go.ChangeAt Go.RowKit Go.Deep

theorem mats_two {w : World} {b : Nat} {va vb : Value} {x y : List Bnd} (h0 : w.cell? ⟨b, 0, none⟩ = some va) (h1 : w.cell? ⟨b, 1, none⟩ = some vb) (ha : IsBnds w va x) (hb : IsBnds w vb y) : IsMats w (.slice (some ⟨b, 0, none⟩) 2 2) [x, y] :=
  ⟨_, 2, rfl, Nat.le_refl _, by decide, fun k u hk => ⟨b, 0, rfl, by
    match k, hk with
    | 0, hk => simp at hk; subst hk; exact ⟨va, ha, h0⟩
    | 1, hk => simp at hk; subst hk; exact ⟨vb, hb, h1⟩
    | k + 2, hk => simp at hk⟩⟩

set_option maxRecDepth 100000 in
set_option maxHeartbeats 4000000 in
theorem checks_walk (a : List Bnd) (va : Value) (b : List Bnd) (vb : Value) (w : World) (ha : IsBnds w va a) (hb : IsBnds w vb b) (hx : Lx w) :
    Calls Tryz.prog 3 #[matV va, matV vb] w fun e w' => e = .returned (.bool true) ∧ Below w.heap.size w w' := by
  have HA := Lib.hid ha
  have HB := Lib.hid hb
  have HX := Lib.hid hx
  obtain ⟨A, ca, rfl, -⟩ := ha
  obtain ⟨B, cb, rfl, -⟩ := hb
  clear hx
  unfold matV
  obtain ⟨t, ht⟩ : ∃ t, fewM [a, b] = t := ⟨_, rfl⟩
  have HS := Lib.hid ht
  obtain ⟨⟨x, y, e0⟩, hs⟩ : ∃ r, spanR a = r := ⟨_, rfl⟩
  have HSP := Lib.hid hs
  obtain ⟨me, hme⟩ : ∃ me, matErr a = me := ⟨_, rfl⟩
  have HME := Lib.hid hme
  obtain ⟨mc, hmc⟩ : ∃ mc, bsC a b = mc := ⟨_, rfl⟩
  have HMC := Lib.hid hmc
  clear ht hs hme hmc
  go_enter Tryz.func3, Tryz.ntmps3
  go_wp2_with fail
  refine calls_gen fun W1 e1 => ?_
  have c0 : W1.cell? ⟨w.heap.size, 0, none⟩ = some (.slice A a.length ca) := by rw [e1]; go_simp
  have c1 : W1.cell? ⟨w.heap.size + 1, 0, none⟩ = some (.slice B b.length cb) := by rw [e1]; go_simp
  have y0 : W1.cell? ⟨w.heap.size + 2, 0, none⟩ = some (.slice A a.length ca) := by rw [e1]; go_simp
  have y1 : W1.cell? ⟨w.heap.size + 2, 1, none⟩ = some (.slice B b.length cb) := by rw [e1]; go_simp
  have hb1 : Below w.heap.size w W1 := by rw [e1]; exact (by repeat (first | exact Below.refl _ _ | assumption | refine Below.drew ?_ | refine bel_al ?_ _ | refine bel_set ?_ (by omega) _ | refine bel_tr ?_ (by assumption)))
  clear e1
  refine (few17_any [a, b] _ W1 (mats_two y0 y1 (HA.out.stays bndAt_stays hb1) (HB.out.stays bndAt_stays hb1))).mono ?_
  rw [HS.out]
  rintro e w2 ⟨rfl, rfl⟩
  have HB1 := Lib.hid hb1
  clear y0 y1 hb1
  obtain ⟨X, hX⟩ : ∃ X, X = w.heap.size := ⟨_, rfl⟩
  obtain ⟨Y, hY⟩ : ∃ Y, Y = w.heap.size + 1 := ⟨_, rfl⟩
  rw [← hY] at c1
  rw [← hX] at c0
  rw [← hY, ← hX]
  clear hX hY
  cases t with
  | false =>
    go_wp2_with fail
    refine (awake_any _ (HX.out.stays HB1.out)).mono ?_
    rintro e w3 ⟨rfl, hb3⟩
    go_wp2_with fail
    go_ret
    exact ⟨rfl, bel_tr HB1.out hb3⟩
  | true =>
    go_wp2_with fail
    refine (span_any a _ _ (HA.out.stays bndAt_stays HB1.out)).mono ?_
    rw [HSP.out]
    rintro e w3 ⟨rfl, hb3⟩
    have HB3 := Lib.hid (bel_tr HB1.out hb3)
    replace c0 := cell_stays hb3 c0
    replace c1 := cell_stays hb3 c1
    clear hb3
    unfold spanV
    go_wp2_with fail
    refine (rspan_any a _ _ (HA.out.stays bndAt_stays HB3.out)).mono ?_
    rw [HSP.out]
    rintro e w4 ⟨rfl, hb4⟩
    have HB4 := Lib.hid (bel_tr HB3.out hb4)
    replace c0 := cell_stays hb4 c0
    replace c1 := cell_stays hb4 c1
    clear hb4
    unfold spanV
    go_wp2_with fail
    refine wp_region_F (fun W => W.cell? ⟨X, 0, none⟩ = some (.slice A a.length ca) ∧ W.cell? ⟨Y, 0, none⟩ = some (.slice B b.length cb)) (by repeat (first | exact grows_cell _ _ _ | exact grows_true | refine grows_and ?_ ?_)) (by kernel_rfl) (by kernel_rfl) ?hF ?_; (case hF => (first | exact ⟨‹_›, ‹_›⟩ | (go_simp; done) | (simp [*]; done) | (repeat' (first | (refine And.intro ?_ ?_) | (go_simp; done) | exact cell_stays (bel_al (Below.refl _ _) _) (by assumption) | assumption)))); intro hne hxx; have hG : Hid (Grows (fun W => W.cell? ⟨X, 0, none⟩ = some (.slice A a.length ca) ∧ W.cell? ⟨Y, 0, none⟩ = some (.slice B b.length cb))) := (by repeat (first | exact grows_cell _ _ _ | exact grows_true | refine grows_and ?_ ?_)); (repeat (go_big_quiet_step ((first
      | (go_at_call 14; exact cls_callB hG.out (fun W hW => by have h := mcheck_any a (.slice A a.length ca) W (HA.out.stays bndAt_stays (bel_tr HB4.out hW)); rw [HME.out] at h; exact h))
      | (go_at_call 15; exact cls_callB hG.out (fun W hW => by have h := rmcheck_any a (.slice A a.length ca) W (HA.out.stays bndAt_stays (bel_tr HB4.out hW)); rw [HME.out] at h; exact h))
      | (go_at_call 16; exact cls_callB hG.out (fun W hW => by have h := mcompare_any a b (.slice A a.length ca) (.slice B b.length cb) W (HA.out.stays bndAt_stays (bel_tr HB4.out hW)) (HB.out.stays bndAt_stays (bel_tr HB4.out hW)); rw [HMC.out] at h; exact h.mono fun _ _ ⟨h1, h2⟩ => ⟨h1, h2.below⟩))
      | (go_at_call 17; exact cls_callB hG.out (fun W hW => by have h := rcompare_any a b (.slice A a.length ca) (.slice B b.length cb) W (HA.out.stays bndAt_stays (bel_tr HB4.out hW)) (HB.out.stays bndAt_stays (bel_tr HB4.out hW)); rw [HMC.out] at h; exact h.mono fun _ _ ⟨h1, h2⟩ => ⟨h1, h2.below⟩))
      | (go_at_call 11; exact cls_callB hG.out (fun W hW => awake_any W (HX.out.stays (bel_tr HB4.out hW)))))))); clear hG hxx hne; refine wpQuiet_nil ?_; rintro _ ⟨⟨w', hb', hF'⟩, rfl⟩
    clear hF'
    go_wp2_with fail
    go_ret
    exact ⟨rfl, bel_tr HB4.out hb'⟩
-- FRAME
set_option maxRecDepth 100000 in
theorem checks_lifted (os : Os) (started : os.Started) (H : Type) (enc : TypeId × Value → H) :
    ReturnsInHanded {} Tryz.checked os 3 .any (fun w args => (Rows.matchChecksSpec.pre enc Tryz.prog Tryz.f3 [] false w args ∧ laidMetH Tryz.prog theLaid w) ∧ sizedMet enc Tryz.prog Tryz.f3 (OpenSpec.ofChange Rows.matchChecksSpec) false w args)
      (Rows.matchChecksSpec.post enc Tryz.prog Tryz.f3 false true false false) := by
  refine handed_shaped_and (C := Tryz.checked) (X := fun w _ => laidMetH Tryz.prog theLaid w) (fun _ _ _ hh h => h.of_heap hh) own_none started (by kernel_rfl) Tryz.func3
    (ChangeSpec.witness_shaped (enc := enc) (C := Tryz.checked) (os := os) (X := fun w _ => laidMetH Tryz.prog theLaid w) false (World.doorLaid Tryz.prog 400 os) #[.agg #[.slice none 0 0], .agg #[.slice none 0 0]] 8 rfl (World.shaped_of_RefB (by kernel_rfl) (by kernel_rfl)) (by kernel_rfl) (by kernel_rfl) (by kernel_rfl) (door_met os _)) ?_
  intro W base args ds gs before hval0 hW _ hsh hL _
  have htab : Lx W := ⟨tab_of_laid hL, Tryz.laysM144.s1_3 W hsh⟩
  have hval : ∀ (j : Nat) t v, Tryz.f3.params[j]? = some t → args[j]? = some v → Value.okWide Tryz.prog W .any base t v := hval0
  have hW' := hW
  obtain ⟨p, q, hA0, hV, rfl, hfz, hnd⟩ := hW
  have hA : DataW.TrodAll enc Tryz.prog W 0 (fun _ => true) true Tryz.f3.params.toList args.toList ds p := hA0
  rw [Tryz.params3] at hA hval
  obtain ⟨v0, vs0, d0, ds0, p0, q0, hargs, rfl, rfl, h0, r0⟩ := trodAll_cons hA
  obtain ⟨v1, vs1, d1, ds1, p1, q1, rfl, rfl, rfl, h1, r1⟩ := trodAll_cons r0
  obtain ⟨rfl, rfl, rfl⟩ := trodAll_nil r1
  obtain rfl : args = #[v0, v1] := by cases args; simp_all
  obtain ⟨rfl, rfl⟩ := trodVars_none hV
  have k0 := h0
  have lt0 : ∀ x ∈ p0, x.block < W.heap.size := by obtain ⟨m, hm⟩ := k0; exact DataW.trod_lt m _ _ _ hm
  obtain ⟨u0, l0, rfl, w0⟩ := read_mat_by_value (hval 0 24 v0 rfl rfl) h0
  have k1 := h1
  have lt1 : ∀ x ∈ p1, x.block < W.heap.size := by obtain ⟨m, hm⟩ := k1; exact DataW.trod_lt m _ _ _ hm
  obtain ⟨u1, l1, rfl, w1⟩ := read_mat_by_value (hval 1 24 v1 rfl rfl) h1
  clear hA0 hval0
  refine (checks_walk l0 u0 l1 u1 W w0 w1 htab).mono fun e W' ⟨he, bel⟩ => ?_
  subst he
  exact ⟨_, rfl, _, _, _, [], _, [], hW', trodAll_mk1 (shut_bool Tryz.underlying4 _), (trodAll_cons_mk (Below.trod laid_out (by kernel_rfl) (of_decide_eq_true (by kernel_rfl)) k0 bel lt0) (trodAll_cons_mk (Below.trod laid_out (by kernel_rfl) (of_decide_eq_true (by kernel_rfl)) k1 bel lt1) trodAll_mk0)), rfl, bel.frame _, fun h => by cases h⟩

theorem checks_holds : Rows.MatchChecksSaid :=
  OpenClaim.holds_of_wide 3 Tryz.f3 rfl rfl rfl rfl rfl rfl rfl ⟨rfl, rfl, rfl, rfl, rfl⟩ rfl rfl rfl rfl rfl (by kernel_rfl) Tryz.func3 (by kernel_rfl)
    (of_decide_eq_true (by kernel_rfl)) (by unfold Func.isWrapper; first | (rw [if_pos (by decide +kernel)]; kernel_rfl) | (rw [if_neg (by decide +kernel)]; exact ⟨rfl, rfl⟩))
    (fun os started H enc _ => checks_lifted os started H enc)

theorem checks_card : Rows.MatchChecksCardSaid :=
  Claim7.holds_tied_plain_at .later [] [.data, .data, .data] true _ false
    checks_holds (fun _ h => by cases h) (by kernel_rfl) (fun _ h => by cases h) matchChecks_row_tie rfl ⟨rfl, rfl⟩ (by kernel_rfl) rfl
    (fun f fn hf hfn => by
      obtain rfl : f = 3 := Option.some.inj ((show Tryz.prog.funcNamed "tidegate/tidegatelaw17.MatchChecks" = some 3 by kernel_rfl).symm.trans hf) |>.symm
      obtain rfl : fn = Tryz.f3 := (Option.some.inj (Tryz.func3.symm.trans hfn)).symm
      exact ⟨by kernel_rfl, fun j t ht => by
        rw [Tryz.params3] at ht
        have hm : t ∈ [24, 24] := by simpa using Array.mem_of_getElem? ht
        have hall : ([24, 24].all fun u => !Tryz.prog.wantsStandIn u) = true := by kernel_rfl
        exact (show Tryz.prog.wantsStandIn t = false by simpa using List.all_eq_true.1 hall t hm)⟩)
    (by kernel_rfl)
#print axioms checks_card
end Go.Proofs.YtclpglgigpjfoaaGreatDoor
