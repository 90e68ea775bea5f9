/- The law MatchSorts: Sort returns the matches or the error of the reference for all lists of matches. No condition beyond the row's own. -/
import Derived.Test.YtclpglgigpjfoaaGreatDoorTie
import Derived.Test.YtclpglgigpjfoaaGreatDoorCards
import Derived.Test.YtclpglgigpjfoaaGreatDoorMread
import Derived.Test.YtclpglgigpjfoaaGreatDoorMawake
import Derived.Test.YtclpglgigpjfoaaGreatDoorMfew
import Derived.Test.YtclpglgigpjfoaaGreatDoorKref
import Derived.Test.YtclpglgigpjfoaaGreatDoorKsort
namespace Go.Proofs.YtclpglgigpjfoaaGreatDoor
open Go.ChangeShapes Go.WideShapes Go.ChangeAt Go.RowKit Go.Deep

set_option maxRecDepth 100000 in
set_option maxHeartbeats 4000000 in
theorem sorts_walk (l : List (List Bnd)) (v : Value) (w : World) (hl : IsMats w v l) (hx : Lx w) :
    Calls Tryz.prog 4 #[v] w fun e w' => e = .returned (.bool true) ∧ Below w.heap.size w w' := by
  have HL := Lib.hid hl
  have HX := Lib.hid hx
  obtain ⟨A, ca, rfl, -⟩ := hl
  clear hx
  obtain ⟨t, ht⟩ : ∃ t, fewM l = t := ⟨_, rfl⟩
  have HS := Lib.hid ht
  obtain ⟨⟨S, s1⟩, hs⟩ : ∃ r, sortR l = r := ⟨_, rfl⟩
  have HSR := Lib.hid hs
  clear ht hs
  go_enter Tryz.func4, Tryz.ntmps4
  go_wp2_with fail
  refine (few17_any l _ w HL.out).mono ?_
  rw [HS.out]
  rintro e w2 ⟨rfl, rfl⟩
  cases t with
  | false =>
    go_wp2_with fail
    refine (awake_any _ HX.out).mono ?_
    rintro e w3 ⟨rfl, hb3⟩
    go_wp2_with fail
    go_ret
    exact ⟨rfl, hb3⟩
  | true =>
    have hlen := (fewM_parts HS.out).1
    go_wp2_with fail
    refine (msort_any l _ _ HL.out (by omega)).mono ?_
    rw [HSR.out]
    rintro e w3 ⟨v3, rfl, hv3, hb3⟩
    have H3 := Lib.hid hv3
    obtain ⟨A3, c3, rfl, -⟩ := hv3
    have HB3 := Lib.hid hb3
    clear hb3
    go_wp2_with fail
    refine (rsort_any l _ _ (HL.out.stays matAt_stays HB3.out) (by omega)).mono ?_
    rw [HSR.out]
    rintro e w4 ⟨v4, rfl, hv4, hb4⟩
    have H4 := Lib.hid hv4
    have H34 := Lib.hid (H3.out.stays matAt_stays hb4)
    obtain ⟨A4, c4, rfl, -⟩ := hv4
    have HB4 := Lib.hid (bel_tr HB3.out hb4)
    clear hb4
    go_wp2_with fail
    refine (rsameM_any S S _ _ _ H34.out H4.out).mono ?_
    rw [decide_eq_true rfl]
    rintro e w5 ⟨rfl, hb5⟩
    have HB5 := Lib.hid (bel_tr HB4.out hb5)
    clear hb5
    go_wp2_with fail
    refine (awake_any _ (HX.out.stays HB5.out)).mono ?_
    rintro e w6 ⟨rfl, hb6⟩
    go_wp2_with fail
    go_ret
    exact ⟨rfl, bel_tr HB5.out hb6⟩
-- FRAME
set_option maxRecDepth 100000 in
theorem sorts_lifted (os : Os) (started : os.Started) (H : Type) (enc : TypeId × Value → H) :
    ReturnsInHanded {} Tryz.checked os 4 .any (fun w args => (Rows.matchSortsSpec.pre enc Tryz.prog Tryz.f4 [] false w args ∧ laidMetH Tryz.prog theLaid w) ∧ sizedMet enc Tryz.prog Tryz.f4 (OpenSpec.ofChange Rows.matchSortsSpec) false w args)
      (Rows.matchSortsSpec.post enc Tryz.prog Tryz.f4 false true false false) := by
  refine handed_shaped_and (C := Tryz.checked) (X := fun w _ => laidMetH Tryz.prog theLaid w) (fun _ _ _ hh h => h.of_heap hh) own_none started (by kernel_rfl) Tryz.func4
    (ChangeSpec.witness_shaped (enc := enc) (C := Tryz.checked) (os := os) (X := fun w _ => laidMetH Tryz.prog theLaid w) false (World.doorLaid Tryz.prog 400 os) #[.slice none 0 0] 8 rfl (World.shaped_of_RefB (by kernel_rfl) (by kernel_rfl)) (by kernel_rfl) (by kernel_rfl) (by kernel_rfl) (door_met os _)) ?_
  intro W base args ds gs before hval0 hW _ hsh hL _
  have htab : Lx W := ⟨tab_of_laid hL, Tryz.laysM144.s1_3 W hsh⟩
  have hval : ∀ (j : Nat) t v, Tryz.f4.params[j]? = some t → args[j]? = some v → Value.okWide Tryz.prog W .any base t v := hval0
  have hW' := hW
  obtain ⟨p, q, hA0, hV, rfl, hfz, hnd⟩ := hW
  have hA : DataW.TrodAll enc Tryz.prog W 0 (fun _ => true) true Tryz.f4.params.toList args.toList ds p := hA0
  rw [Tryz.params4] at hA hval
  obtain ⟨v0, vs0, d0, ds0, p0, q0, hargs, rfl, rfl, h0, r0⟩ := trodAll_cons hA
  obtain ⟨rfl, rfl, rfl⟩ := trodAll_nil r0
  obtain rfl : args = #[v0] := by cases args; simp_all
  obtain ⟨rfl, rfl⟩ := trodVars_none hV
  have k0 := h0
  have lt0 : ∀ x ∈ p0, x.block < W.heap.size := by obtain ⟨m, hm⟩ := k0; exact DataW.trod_lt m _ _ _ hm
  obtain ⟨s0, len0, cap0, rfl⟩ := okWide_slice Tryz.underlying26 (hval 0 26 v0 rfl rfl)
  obtain ⟨l0, w0⟩ : ∃ l, IsMats W (.slice s0 len0 cap0) l := by obtain ⟨fuel, hf⟩ := h0; exact read_mats (v := .slice s0 len0 cap0) hf
  clear hA0 hval0
  refine (sorts_walk l0 _ W w0 htab).mono fun e W' ⟨he, bel⟩ => ?_
  subst he
  exact ⟨_, rfl, _, _, _, [], _, [], hW', trodAll_mk1 (shut_bool Tryz.underlying4 _), (trodAll_cons_mk (Below.trod laid_out (by kernel_rfl) (of_decide_eq_true (by kernel_rfl)) k0 bel lt0) trodAll_mk0), rfl, bel.frame _, fun h => by cases h⟩

theorem sorts_holds : Rows.MatchSortsSaid :=
  OpenClaim.holds_of_wide 4 Tryz.f4 rfl rfl rfl rfl rfl rfl rfl ⟨rfl, rfl, rfl, rfl, rfl⟩ rfl rfl rfl rfl rfl (by kernel_rfl) Tryz.func4 (by kernel_rfl)
    (of_decide_eq_true (by kernel_rfl)) (by unfold Func.isWrapper; first | (rw [if_pos (by decide +kernel)]; kernel_rfl) | (rw [if_neg (by decide +kernel)]; exact ⟨rfl, rfl⟩))
    (fun os started H enc _ => sorts_lifted os started H enc)

theorem sorts_card : Rows.MatchSortsCardSaid :=
  Claim7.holds_tied_plain_at .later [] [.data, .data, .data] true _ false
    sorts_holds (fun _ h => by cases h) (by kernel_rfl) (fun _ h => by cases h) matchSorts_row_tie rfl ⟨rfl, rfl⟩ (by kernel_rfl) rfl
    (fun f fn hf hfn => by
      obtain rfl : f = 4 := Option.some.inj ((show Tryz.prog.funcNamed "tidegate/tidegatelaw17.MatchSorts" = some 4 by kernel_rfl).symm.trans hf) |>.symm
      obtain rfl : fn = Tryz.f4 := (Option.some.inj (Tryz.func4.symm.trans hfn)).symm
      exact ⟨by kernel_rfl, fun j t ht => by
        rw [Tryz.params4] at ht
        have hm : t ∈ [26] := by simpa using Array.mem_of_getElem? ht
        have hall : ([26].all fun u => !Tryz.prog.wantsStandIn u) = true := by kernel_rfl
        exact (show Tryz.prog.wantsStandIn t = false by simpa using List.all_eq_true.1 hall t hm)⟩)
    (by kernel_rfl)
#print axioms sorts_card
end Go.Proofs.YtclpglgigpjfoaaGreatDoor
