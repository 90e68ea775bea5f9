/- The law MatchTexts: Format returns the text or the error of the reference for all variables and matches. No condition beyond the row's own. -/
import Derived.Test.YtclpglgigpjfoaaGreatDoorTie
import Derived.Test.YtclpglgigpjfoaaGreatDoorCards
import Derived.Test.YtclpglgigpjfoaaGreatDoorMread
import Derived.Test.YtclpglgigpjfoaaGreatDoorMawake
import Derived.Test.YtclpglgigpjfoaaGreatDoorMfew
import Derived.Test.YtclpglgigpjfoaaGreatDoorMcont
import Derived.Test.YtclpglgigpjfoaaGreatDoorMrfmt
namespace Go.Proofs.YtclpglgigpjfoaaGreatDoor
open Go.ChangeShapes Go.WideShapes Go.ChangeAt Go.RowKit Go.Deep

theorem mats_one {w : World} {b : Nat} {va : Value} {x : List Bnd} (h0 : w.cell? ⟨b, 0, none⟩ = some va) (ha : IsBnds w va x) : IsMats w (.slice (some ⟨b, 0, none⟩) 1 1) [x] :=
  ⟨_, 1, rfl, Nat.le_refl _, by decide, fun k u hk => ⟨b, 0, rfl, by
    match k, hk with
    | 0, hk => simp at hk; subst hk; exact ⟨va, ha, h0⟩
    | k + 1, hk => simp at hk⟩⟩
def longN (x : Nv) : Bool := decide ((60 : Int) < (x.name.size : Int))
theorem longN_any (x : Nv) (w : World) : Calls Tryz.prog 26 #[.agg #[.string x.name, .int .i64 x.ty]] w fun e w' => e = .returned (.bool (longN x)) ∧ Below w.heap.size w w' := by
  unfold longN
  go_enter Tryz.func26, Tryz.ntmps26
  go_wp2_with fail
  go_ret
  exact ⟨rfl, bel_one _ _⟩

set_option maxRecDepth 100000 in
set_option maxHeartbeats 4000000 in
theorem texts_walk (vs : List Nv) (vv : Value) (a : List Bnd) (va : Value) (w : World) (hv : IsNvs w vv vs) (ha : IsBnds w va a) (hx : Lx w) :
    Calls Tryz.prog 6 #[vv, matV va] w fun e w' => e = .returned (.bool true) ∧ Below w.heap.size w w' := by
  have HA := Lib.hid ha
  have HV := Lib.hid hv
  have HX := Lib.hid hx
  obtain ⟨A, ca, rfl, hca, hcm, -⟩ := ha
  have hna := len_i64 hca hcm
  obtain ⟨B, cb, rfl, hcb, hcn, -⟩ := hv
  have hnb := len_i64 hcb hcn
  clear hx hcm hcn
  unfold matV
  obtain ⟨t, ht⟩ : ∃ t, fewM [a] = t := ⟨_, rfl⟩
  have HS := Lib.hid ht
  clear ht
  go_enter Tryz.func6, Tryz.ntmps6
  go_wp2_with fail
  refine calls_gen fun W1 e1 => ?_
  have c0 : W1.cell? ⟨w.heap.size, 0, none⟩ = some (.slice A a.length ca) := by rw [e1]; go_simp
  have y0 : W1.cell? ⟨w.heap.size + 1, 0, none⟩ = some (.slice A a.length ca) := by rw [e1]; go_simp
  have hb1 : Below w.heap.size w W1 := by rw [e1]; exact (by repeat (first | exact Below.refl _ _ | assumption | refine Below.drew ?_ | refine bel_al ?_ _ | refine bel_set ?_ (by omega) _ | refine bel_tr ?_ (by assumption)))
  clear e1
  refine (few17_any [a] _ W1 (mats_one y0 (HA.out.stays bndAt_stays hb1))).mono ?_
  rw [HS.out]
  rintro e w2 ⟨rfl, rfl⟩
  have HB1 := Lib.hid hb1
  clear y0 hb1
  obtain ⟨X, hX⟩ : ∃ X, X = w.heap.size := ⟨_, rfl⟩
  rw [← hX] at c0 ⊢
  clear hX
  cases t with
  | false =>
    go_wp2_with fail
    refine (awake_any _ (HX.out.stays HB1.out)).mono ?_
    rintro e w3 ⟨rfl, hb3⟩
    go_wp2_with fail
    go_ret
    exact ⟨rfl, bel_tr HB1.out hb3⟩
  | true =>
    have hal : a.length ≤ 20 := (fewM_parts HS.out).2 a (by simp)
    by_cases hlen : vs.length ≤ 20
    case neg =>
      have hlen' : (20 : Int) < (vs.length : Int) := by omega
      go_wp2_with fail
      refine (awake_any _ (HX.out.stays HB1.out)).mono ?_
      rintro e w3 ⟨rfl, hb3⟩
      go_wp2_with fail
      go_ret
      exact ⟨rfl, bel_tr HB1.out hb3⟩
    have hlen' : ¬ (20 : Int) < (vs.length : Int) := by omega
    obtain ⟨t2, ht2⟩ : ∃ t2, vs.any longN = t2 := ⟨_, rfl⟩
    have HT2 := Lib.hid ht2
    clear ht2
    go_wp2_with fail
    refine (containsNvs_any 26 [] longN vs _ W1 (HV.out.stays nvAt_stays HB1.out) (enters_of Tryz.func26 (by kernel_rfl) rfl) (fun W x _ _ => longN_any x W)).mono ?_
    rw [HT2.out]
    rintro e w2 ⟨rfl, hb2⟩
    replace c0 := cell_stays hb2 c0
    have HB2 := Lib.hid (bel_tr HB1.out hb2)
    clear hb2
    cases t2 with
    | true =>
      go_wp2_with fail
      refine (awake_any _ (HX.out.stays HB2.out)).mono ?_
      rintro e w3 ⟨rfl, hb3⟩
      go_wp2_with fail
      go_ret
      exact ⟨rfl, bel_tr HB2.out hb3⟩
    | false =>
      have hnm : ∀ v ∈ vs, v.name.data.toList.length ≤ 60 := fun v hv => by
        have h := (List.any_eq_false.1 HT2.out) v hv
        unfold longN at h
        simp only [decide_eq_true_eq] at h
        have : v.name.size = v.name.data.toList.length := rfl
        omega
      have HNM := Lib.hid hnm
      obtain ⟨⟨S, er⟩, hS⟩ : ∃ r, formatR vs a = r := ⟨_, rfl⟩
      have HF := Lib.hid hS
      clear hS hnm
      go_wp2_with fail
      refine (format_any vs a _ _ w2 (HA.out.stays bndAt_stays HB2.out) (HV.out.stays nvAt_stays HB2.out) (HX.out.stays HB2.out) (fun v hv => by have := HNM.out v hv; omega)).mono ?_
      rw [HF.out]
      rintro e w3 ⟨rfl, hb3⟩
      replace c0 := cell_stays hb3 c0
      have HB3 := Lib.hid (bel_tr HB2.out hb3)
      clear hb3
      go_wp2_with fail
      refine (rformat_any vs a _ _ w3 (HA.out.stays bndAt_stays HB3.out) (HV.out.stays nvAt_stays HB3.out) (fun v hv => by have := HNM.out v hv; omega) (by omega)).mono ?_
      rw [HF.out]
      rintro e w4 ⟨rfl, hb4⟩
      replace c0 := cell_stays hb4 c0
      have HB4 := Lib.hid (bel_tr HB3.out hb4)
      clear hb4
      go_wp2_with fail
      refine (awake_any _ (HX.out.stays HB4.out)).mono ?_
      rintro e w5 ⟨rfl, hb5⟩
      go_wp2_with fail
      go_ret
      exact ⟨rfl, bel_tr HB4.out hb5⟩
-- FRAME
set_option maxRecDepth 100000 in
theorem texts_lifted (os : Os) (started : os.Started) (H : Type) (enc : TypeId × Value → H) :
    ReturnsInHanded {} Tryz.checked os 6 .any (fun w args => (Rows.matchTextsSpec.pre enc Tryz.prog Tryz.f6 [] false w args ∧ laidMetH Tryz.prog theLaid w) ∧ sizedMet enc Tryz.prog Tryz.f6 (OpenSpec.ofChange Rows.matchTextsSpec) false w args)
      (Rows.matchTextsSpec.post enc Tryz.prog Tryz.f6 false true false false) := by
  refine handed_shaped_and (C := Tryz.checked) (X := fun w _ => laidMetH Tryz.prog theLaid w) (fun _ _ _ hh h => h.of_heap hh) own_none started (by kernel_rfl) Tryz.func6
    (ChangeSpec.witness_shaped (enc := enc) (C := Tryz.checked) (os := os) (X := fun w _ => laidMetH Tryz.prog theLaid w) false (World.doorLaid Tryz.prog 400 os) #[.slice none 0 0, .agg #[.slice none 0 0]] 8 rfl (World.shaped_of_RefB (by kernel_rfl) (by kernel_rfl)) (by kernel_rfl) (by kernel_rfl) (by kernel_rfl) (door_met os _)) ?_
  intro W base args ds gs before hval0 hW _ hsh hL _
  have htab : Lx W := ⟨tab_of_laid hL, Tryz.laysM144.s1_3 W hsh⟩
  have hval : ∀ (j : Nat) t v, Tryz.f6.params[j]? = some t → args[j]? = some v → Value.okWide Tryz.prog W .any base t v := hval0
  have hW' := hW
  obtain ⟨p, q, hA0, hV, rfl, hfz, hnd⟩ := hW
  have hA : DataW.TrodAll enc Tryz.prog W 0 (fun _ => true) true Tryz.f6.params.toList args.toList ds p := hA0
  rw [Tryz.params6] at hA hval
  obtain ⟨v0, vs0, d0, ds0, p0, q0, hargs, rfl, rfl, h0, r0⟩ := trodAll_cons hA
  obtain ⟨v1, vs1, d1, ds1, p1, q1, rfl, rfl, rfl, h1, r1⟩ := trodAll_cons r0
  obtain ⟨rfl, rfl, rfl⟩ := trodAll_nil r1
  obtain rfl : args = #[v0, v1] := by cases args; simp_all
  obtain ⟨rfl, rfl⟩ := trodVars_none hV
  have k0 := h0
  have lt0 : ∀ x ∈ p0, x.block < W.heap.size := by obtain ⟨m, hm⟩ := k0; exact DataW.trod_lt m _ _ _ hm
  obtain ⟨s0, len0, cap0, rfl⟩ := okWide_slice Tryz.underlying53 (hval 0 53 v0 rfl rfl)
  obtain ⟨l0, w0⟩ : ∃ l, IsNvs W (.slice s0 len0 cap0) l := by obtain ⟨fuel, hf⟩ := h0; exact read_nvs (v := .slice s0 len0 cap0) hf
  have k1 := h1
  have lt1 : ∀ x ∈ p1, x.block < W.heap.size := by obtain ⟨m, hm⟩ := k1; exact DataW.trod_lt m _ _ _ hm
  obtain ⟨u1, l1, rfl, w1⟩ := read_mat_by_value (hval 1 24 v1 rfl rfl) h1
  clear hA0 hval0
  refine (texts_walk l0 _ l1 u1 W w0 w1 htab).mono fun e W' ⟨he, bel⟩ => ?_
  subst he
  exact ⟨_, rfl, _, _, _, [], _, [], hW', trodAll_mk1 (shut_bool Tryz.underlying4 _), (trodAll_cons_mk (Below.trod laid_out (by kernel_rfl) (of_decide_eq_true (by kernel_rfl)) k0 bel lt0) (trodAll_cons_mk (Below.trod laid_out (by kernel_rfl) (of_decide_eq_true (by kernel_rfl)) k1 bel lt1) trodAll_mk0)), rfl, bel.frame _, fun h => by cases h⟩

theorem texts_holds : Rows.MatchTextsSaid :=
  OpenClaim.holds_of_wide 6 Tryz.f6 rfl rfl rfl rfl rfl rfl rfl ⟨rfl, rfl, rfl, rfl, rfl⟩ rfl rfl rfl rfl rfl (by kernel_rfl) Tryz.func6 (by kernel_rfl)
    (of_decide_eq_true (by kernel_rfl)) (by unfold Func.isWrapper; first | (rw [if_pos (by decide +kernel)]; kernel_rfl) | (rw [if_neg (by decide +kernel)]; exact ⟨rfl, rfl⟩))
    (fun os started H enc _ => texts_lifted os started H enc)

theorem texts_card : Rows.MatchTextsCardSaid :=
  Claim7.holds_tied_plain_at .later [] [.data, .data, .data] true _ false
    texts_holds (fun _ h => by cases h) (by kernel_rfl) (fun _ h => by cases h) matchTexts_row_tie rfl ⟨rfl, rfl⟩ (by kernel_rfl) rfl
    (fun f fn hf hfn => by
      obtain rfl : f = 6 := Option.some.inj ((show Tryz.prog.funcNamed "tidegate/tidegatelaw17.MatchTexts" = some 6 by kernel_rfl).symm.trans hf) |>.symm
      obtain rfl : fn = Tryz.f6 := (Option.some.inj (Tryz.func6.symm.trans hfn)).symm
      exact ⟨by kernel_rfl, fun j t ht => by
        rw [Tryz.params6] at ht
        have hm : t ∈ [53, 24] := by simpa using Array.mem_of_getElem? ht
        have hall : ([53, 24].all fun u => !Tryz.prog.wantsStandIn u) = true := by kernel_rfl
        exact (show Tryz.prog.wantsStandIn t = false by simpa using List.all_eq_true.1 hall t hm)⟩)
    (by kernel_rfl)
#print axioms texts_card
end Go.Proofs.YtclpglgigpjfoaaGreatDoor
