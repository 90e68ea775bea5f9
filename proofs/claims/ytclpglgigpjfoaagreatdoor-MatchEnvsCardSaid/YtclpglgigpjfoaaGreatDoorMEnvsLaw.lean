/- The law MatchEnvs: Env returns the environment or the error of the reference for all lists of events, numbers and matches. No condition beyond the row's own. -/
import Derived.Test.YtclpglgigpjfoaaGreatDoorTie
import Derived.Test.YtclpglgigpjfoaaGreatDoorCards
import Derived.Test.YtclpglgigpjfoaaGreatDoorMread
import Derived.Test.YtclpglgigpjfoaaGreatDoorMawake
import Derived.Test.YtclpglgigpjfoaaGreatDoorMfew
import Derived.Test.YtclpglgigpjfoaaGreatDoorMrenv
import Derived.Test.YtclpglgigpjfoaaGreatDoorMsame
namespace Go.Proofs.YtclpglgigpjfoaaGreatDoor
open Go.ChangeShapes Go.WideShapes Go.ChangeAt Go.RowKit Go.Deep

theorem mats_one {w : World} {b : Nat} {va : Value} {x : List Bnd} (h0 : w.cell? ⟨b, 0, none⟩ = some va) (ha : IsBnds w va x) : IsMats w (.slice (some ⟨b, 0, none⟩) 1 1) [x] :=
  ⟨_, 1, rfl, Nat.le_refl _, by decide, fun k u hk => ⟨b, 0, rfl, by
    match k, hk with
    | 0, hk => simp at hk; subst hk; exact ⟨va, ha, h0⟩
    | k + 1, hk => simp at hk⟩⟩
theorem few_vals {l : List Evt} (h : fewE l = true) : ∀ e ∈ l, e.vals.length ≤ 1048576 := fun e he => by have := ((fewE_parts h).2 e he).1; omega

set_option maxRecDepth 100000 in
set_option maxHeartbeats 4000000 in
theorem envs_walk (l : List Evt) (v : Value) (n : Int) (a : List Bnd) (va : Value) (w : World) (hl : IsEvts w v l) (ha : IsBnds w va a) (hx : Lx w) :
    Calls Tryz.prog 5 #[v, .int .i64 n, matV va] w fun e w' => e = .returned (.bool true) ∧ Below w.heap.size w w' := by
  have HL := Lib.hid hl
  have HA := Lib.hid ha
  have HX := Lib.hid hx
  obtain ⟨B, cb, rfl, -⟩ := hl
  obtain ⟨A, ca, rfl, -⟩ := ha
  clear hx
  unfold matV
  obtain ⟨s, hs⟩ : ∃ s, fewE l = s := ⟨_, rfl⟩
  have HS := Lib.hid hs
  obtain ⟨t, ht⟩ : ∃ t, fewM [a] = t := ⟨_, rfl⟩
  have HT := Lib.hid ht
  obtain ⟨⟨S, s1⟩, hs⟩ : ∃ r, envR l n a = r := ⟨_, rfl⟩
  have HSR := Lib.hid hs
  clear ht hs
  go_enter Tryz.func5, Tryz.ntmps5
  cases s with
  | false =>
    go_wp2_with fail
    refine calls_gen fun W1 e1 => ?_
    have hb1 : Below w.heap.size w W1 := by rw [e1]; exact (by repeat (first | exact Below.refl _ _ | assumption | refine Below.drew ?_ | refine bel_al ?_ _ | refine bel_set ?_ (by omega) _ | refine bel_tr ?_ (by assumption)))
    clear e1
    refine (few05_any l _ W1 (HL.out.stays evtAt_stays hb1)).mono ?_
    rw [HS.out]
    rintro e w2 ⟨rfl, rfl⟩
    go_wp2_with fail
    refine (awake_any _ (HX.out.stays hb1)).mono ?_
    rintro e w3 ⟨rfl, hb3⟩
    go_wp2_with fail
    go_ret
    exact ⟨rfl, bel_tr hb1 hb3⟩
  | true =>
    go_wp2_with fail
    refine calls_gen fun W1 e1 => ?_
    have hb1 : Below w.heap.size w W1 := by rw [e1]; exact (by repeat (first | exact Below.refl _ _ | assumption | refine Below.drew ?_ | refine bel_al ?_ _ | refine bel_set ?_ (by omega) _ | refine bel_tr ?_ (by assumption)))
    have c0 : W1.cell? ⟨w.heap.size, 0, none⟩ = some (.slice A a.length ca) := by rw [e1]; go_simp
    have hs1 : w.heap.size < W1.heap.size := by rw [e1]; simp
    clear e1
    refine (few05_any l _ W1 (HL.out.stays evtAt_stays hb1)).mono ?_
    rw [HS.out]
    rintro e w2 ⟨rfl, rfl⟩
    have HB1 := Lib.hid hb1
    clear hb1
    obtain ⟨X, hX⟩ : ∃ X, X = w.heap.size := ⟨_, rfl⟩
    have hXw : w.heap.size ≤ X := by omega
    rw [← hX] at c0 hs1
    rw [← hX]
    clear hX
    go_wp2_with fail
    refine calls_gen fun W2 e2 => ?_
    have hb2 : Below W1.heap.size W1 W2 := by rw [e2]; exact (by repeat (first | exact Below.refl _ _ | assumption | refine Below.drew ?_ | refine bel_al ?_ _ | refine bel_set ?_ (by omega) _ | refine bel_tr ?_ (by assumption)))
    have y0 : W2.cell? ⟨W1.heap.size, 0, none⟩ = some (.slice A a.length ca) := by rw [e2]; go_simp
    replace c0 := cell_stays hb2 c0
    clear e2
    have HB2 := Lib.hid (bel_tr HB1.out hb2)
    clear hb2 hs1
    refine (few17_any [a] _ W2 (mats_one y0 (HA.out.stays bndAt_stays HB2.out))).mono ?_
    rw [HT.out]
    rintro e w3 ⟨rfl, rfl⟩
    clear y0
    cases t with
    | false =>
      go_wp2_with fail
      refine (awake_any _ (HX.out.stays HB2.out)).mono ?_
      rintro e w3 ⟨rfl, hb3⟩
      go_wp2_with fail
      go_ret
      exact ⟨rfl, bel_tr HB2.out hb3⟩
    | true =>
      go_wp2_with fail
      refine (env_any l n a _ _ _ (HL.out.stays evtAt_stays HB2.out) (HA.out.stays bndAt_stays HB2.out) (few_vals HS.out)).mono ?_
      rw [HSR.out]
      rintro e w3 ⟨v3, rfl, hv3, hb3⟩
      have H3 := Lib.hid hv3
      obtain ⟨A3, c3, rfl, -⟩ := hv3
      replace c0 := cell_stays hb3 c0
      have HB3 := Lib.hid (bel_tr HB2.out hb3)
      have hX3 := World.block_lt_of_cell? w3 ⟨X, _, none⟩ c0
      simp only at hX3
      have hneX : X ≠ w3.heap.size := by omega
      have hneX' : w3.heap.size ≠ X := by omega
      clear hb3
      go_wp2_with fail
      refine calls_gen fun W4 e4 => ?_
      have hb4 : Below w3.heap.size w3 W4 := by rw [e4]; exact (by repeat (first | exact Below.refl _ _ | assumption | refine Below.drew ?_ | refine bel_al ?_ _ | refine bel_set ?_ (by omega) _ | refine bel_tr ?_ (by assumption)))
      have x0 : W4.cell? ⟨w3.heap.size, 0, none⟩ = some (.slice A3 S.length c3) := by rw [e4]; go_simp
      clear e4
      obtain ⟨E, hE⟩ : ∃ E, E = w3.heap.size := ⟨_, rfl⟩
      rw [← hE] at x0
      rw [← hE]
      clear hE
      have HB4 := Lib.hid (bel_tr HB3.out hb4)
      have H4 := Lib.hid (H3.out.stays varAt_stays hb4)
      clear hb4 c0 hneX hneX' hX3
      refine (renv_any l n a _ _ W4 (HL.out.stays evtAt_stays HB4.out) (HA.out.stays bndAt_stays HB4.out)).mono ?_
      rw [HSR.out]
      rintro e w5 ⟨v5, rfl, hv5, hb5⟩
      have H5 := Lib.hid hv5
      obtain ⟨A5, c5, rfl, -⟩ := hv5
      have H45 := Lib.hid (H4.out.stays varAt_stays hb5)
      replace x0 := cell_stays hb5 x0
      have HB5 := Lib.hid (bel_tr HB4.out hb5)
      have hE5 := World.block_lt_of_cell? w5 ⟨E, _, none⟩ x0
      simp only at hE5
      clear hb5
      have hne : E ≠ w5.heap.size := by omega
      have hne' : w5.heap.size ≠ E := by omega
      go_wp2_with fail
      refine calls_gen fun W6 e6 => ?_
      have hb6 : Below w5.heap.size w5 W6 := by rw [e6]; exact (by repeat (first | exact Below.refl _ _ | assumption | refine Below.drew ?_ | refine bel_al ?_ _ | refine bel_set ?_ (by omega) _ | refine bel_tr ?_ (by assumption)))
      clear e6
      refine (rsameEnv_eq S _ _ W6 (H45.out.stays varAt_stays hb6) (H5.out.stays varAt_stays hb6)).mono ?_
      rintro e w7 ⟨rfl, hb7⟩
      have HB7 := Lib.hid (bel_tr HB5.out (bel_tr hb6 hb7))
      clear hb6 hb7
      go_wp2_with fail
      refine (awake_any _ (HX.out.stays HB7.out)).mono ?_
      rintro e w8 ⟨rfl, hb8⟩
      go_wp2_with fail
      go_ret
      exact ⟨rfl, bel_tr HB7.out hb8⟩
-- FRAME
set_option maxRecDepth 100000 in
theorem envs_lifted (os : Os) (started : os.Started) (H : Type) (enc : TypeId × Value → H) :
    ReturnsInHanded {} Tryz.checked os 5 .any (fun w args => (Rows.matchEnvsSpec.pre enc Tryz.prog Tryz.f5 [] false w args ∧ laidMetH Tryz.prog theLaid w) ∧ sizedMet enc Tryz.prog Tryz.f5 (OpenSpec.ofChange Rows.matchEnvsSpec) false w args)
      (Rows.matchEnvsSpec.post enc Tryz.prog Tryz.f5 false true false false) := by
  refine handed_shaped_and (C := Tryz.checked) (X := fun w _ => laidMetH Tryz.prog theLaid w) (fun _ _ _ hh h => h.of_heap hh) own_none started (by kernel_rfl) Tryz.func5
    (ChangeSpec.witness_shaped (enc := enc) (C := Tryz.checked) (os := os) (X := fun w _ => laidMetH Tryz.prog theLaid w) false (World.doorLaid Tryz.prog 400 os) #[.slice none 0 0, .int .i64 0, .agg #[.slice none 0 0]] 8 rfl (World.shaped_of_RefB (by kernel_rfl) (by kernel_rfl)) (by kernel_rfl) (by kernel_rfl) (by kernel_rfl) (door_met os _)) ?_
  intro W base args ds gs before hval0 hW _ hsh hL _
  have htab : Lx W := ⟨tab_of_laid hL, Tryz.laysM144.s1_3 W hsh⟩
  have hval : ∀ (j : Nat) t v, Tryz.f5.params[j]? = some t → args[j]? = some v → Value.okWide Tryz.prog W .any base t v := hval0
  have hW' := hW
  obtain ⟨p, q, hA0, hV, rfl, hfz, hnd⟩ := hW
  have hA : DataW.TrodAll enc Tryz.prog W 0 (fun _ => true) true Tryz.f5.params.toList args.toList ds p := hA0
  rw [Tryz.params5] at hA hval
  obtain ⟨v0, vs0, d0, ds0, p0, q0, hargs, rfl, rfl, h0, r0⟩ := trodAll_cons hA
  obtain ⟨v1, vs1, d1, ds1, p1, q1, rfl, rfl, rfl, h1, r1⟩ := trodAll_cons r0
  obtain ⟨v2, vs2, d2, ds2, p2, q2, rfl, rfl, rfl, h2, r2⟩ := trodAll_cons r1
  obtain ⟨rfl, rfl, rfl⟩ := trodAll_nil r2
  obtain rfl : args = #[v0, v1, v2] := by cases args; simp_all
  obtain ⟨rfl, rfl⟩ := trodVars_none hV
  have k0 := h0
  have lt0 : ∀ x ∈ p0, x.block < W.heap.size := by obtain ⟨m, hm⟩ := k0; exact DataW.trod_lt m _ _ _ hm
  obtain ⟨s0, len0, cap0, rfl⟩ := okWide_slice Tryz.underlying42 (hval 0 42 v0 rfl rfl)
  obtain ⟨l0, w0⟩ : ∃ l, IsEvts W (.slice s0 len0 cap0) l := by obtain ⟨fuel, hf⟩ := h0; exact read_evts (v := .slice s0 len0 cap0) hf
  have k1 := h1
  have lt1 : ∀ x ∈ p1, x.block < W.heap.size := by obtain ⟨m, hm⟩ := k1; exact DataW.trod_lt m _ _ _ hm
  obtain ⟨a1, e1⟩ : ∃ a, v1 = .int .i64 a := by obtain ⟨a, e, _⟩ := open_int Tryz.underlying3 (hval 1 3 v1 rfl rfl) h1; exact ⟨a, e⟩
  subst e1
  have k2 := h2
  have lt2 : ∀ x ∈ p2, x.block < W.heap.size := by obtain ⟨m, hm⟩ := k2; exact DataW.trod_lt m _ _ _ hm
  obtain ⟨u2, l2, rfl, w2⟩ := read_mat_by_value (hval 2 24 v2 rfl rfl) h2
  clear hA0 hval0
  refine (envs_walk l0 _ a1 l2 u2 W w0 w2 htab).mono fun e W' ⟨he, bel⟩ => ?_
  subst he
  exact ⟨_, rfl, _, _, _, [], _, [], hW', trodAll_mk1 (shut_bool Tryz.underlying4 _), (trodAll_cons_mk (Below.trod laid_out (by kernel_rfl) (of_decide_eq_true (by kernel_rfl)) k0 bel lt0) (trodAll_cons_mk (Below.trod laid_out (by kernel_rfl) (of_decide_eq_true (by kernel_rfl)) k1 bel lt1) (trodAll_cons_mk (Below.trod laid_out (by kernel_rfl) (of_decide_eq_true (by kernel_rfl)) k2 bel lt2) trodAll_mk0))), rfl, bel.frame _, fun h => by cases h⟩

theorem envs_holds : Rows.MatchEnvsSaid :=
  OpenClaim.holds_of_wide 5 Tryz.f5 rfl rfl rfl rfl rfl rfl rfl ⟨rfl, rfl, rfl, rfl, rfl⟩ rfl rfl rfl rfl rfl (by kernel_rfl) Tryz.func5 (by kernel_rfl)
    (of_decide_eq_true (by kernel_rfl)) (by unfold Func.isWrapper; first | (rw [if_pos (by decide +kernel)]; kernel_rfl) | (rw [if_neg (by decide +kernel)]; exact ⟨rfl, rfl⟩))
    (fun os started H enc _ => envs_lifted os started H enc)

theorem envs_card : Rows.MatchEnvsCardSaid :=
  Claim7.holds_tied_plain_at .later [] [.data, .data, .data] true _ false
    envs_holds (fun _ h => by cases h) (by kernel_rfl) (fun _ h => by cases h) matchEnvs_row_tie rfl ⟨rfl, rfl⟩ (by kernel_rfl) rfl
    (fun f fn hf hfn => by
      obtain rfl : f = 5 := Option.some.inj ((show Tryz.prog.funcNamed "tidegate/tidegatelaw17.MatchEnvs" = some 5 by kernel_rfl).symm.trans hf) |>.symm
      obtain rfl : fn = Tryz.f5 := (Option.some.inj (Tryz.func5.symm.trans hfn)).symm
      exact ⟨by kernel_rfl, fun j t ht => by
        rw [Tryz.params5] at ht
        have hm : t ∈ [42, 3, 24] := by simpa using Array.mem_of_getElem? ht
        have hall : ([42, 3, 24].all fun u => !Tryz.prog.wantsStandIn u) = true := by kernel_rfl
        exact (show Tryz.prog.wantsStandIn t = false by simpa using List.all_eq_true.1 hall t hm)⟩)
    (by kernel_rfl)
#print axioms envs_card
end Go.Proofs.YtclpglgigpjfoaaGreatDoor
