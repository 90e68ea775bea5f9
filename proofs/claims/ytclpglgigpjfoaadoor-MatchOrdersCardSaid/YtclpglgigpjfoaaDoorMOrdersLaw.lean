/- The law MatchOrders: Compare is a total order, and a match that is continued comes behind what it was. No condition beyond the row's own. -/
import Derived.Test.YtclpglgigpjfoaaDoorTie
import Derived.Test.YtclpglgigpjfoaaDoorCards
import Derived.Test.YtclpglgigpjfoaaDoorMread
import Derived.Test.YtclpglgigpjfoaaDoorMawake
import Derived.Test.YtclpglgigpjfoaaDoorMfew
import Derived.Test.YtclpglgigpjfoaaDoorMplain
import Derived.Test.YtclpglgigpjfoaaDoorMeqb
namespace Go.Proofs.YtclpglgigpjfoaaDoor
open Go.ChangeShapes Go.WideShapes Go.ChangeAt Go.RowKit Go.Deep

theorem mats_three {w : World} {b : Nat} {va vb vc : Value} {x y z : List Bnd} (h0 : w.cell? ⟨b, 0, none⟩ = some va) (h1 : w.cell? ⟨b, 1, none⟩ = some vb) (h2 : w.cell? ⟨b, 2, none⟩ = some vc) (ha : IsBnds w va x) (hb : IsBnds w vb y) (hc : IsBnds w vc z) : IsMats w (.slice (some ⟨b, 0, none⟩) 3 3) [x, y, z] :=
  ⟨_, 3, rfl, Nat.le_refl _, by decide, fun k u hk => ⟨b, 0, rfl, by
    match k, hk with
    | 0, hk => simp at hk; subst hk; exact ⟨va, ha, h0⟩
    | 1, hk => simp at hk; subst hk; exact ⟨vb, hb, h1⟩
    | 2, hk => simp at hk; subst hk; exact ⟨vc, hc, h2⟩
    | k + 3, hk => simp at hk⟩⟩
theorem bnds_take {w : World} {A : Option Addr} {c : Nat} {l : List Bnd} (h : IsBnds w (.slice A l.length c) l) (k : Nat) (hk : k ≤ l.length) : IsBnds w (.slice A k c) (l.take k) := by
  obtain ⟨A', c', he, h1, h2, hat⟩ := h
  injection he with e1 e2 e3
  subst e1 e3
  have hl : (l.take k).length = k := by rw [List.length_take]; omega
  refine ⟨A, c, by rw [hl], by omega, h2, fun j x hj => hat j x ?_⟩
  have hjl := (List.getElem?_eq_some_iff.1 hj).1
  rw [List.getElem?_take, if_pos (by omega)] at hj
  exact hj

theorem cmpB (a b : List Bnd) (u v : Value) (w : World) (h1 : IsBnds w u a) (h2 : IsBnds w v b) : Calls Tryd.prog 9 #[.agg #[u], .agg #[v]] w fun e w' => e = .returned (.int .i64 (bsC a b)) ∧ Below w.heap.size w w' :=
  (mcompare_any a b u v w h1 h2).mono fun _ _ h => ⟨h.1, h.2.below⟩
set_option maxRecDepth 100000 in
set_option maxHeartbeats 8000000 in
theorem orders_walk (a : List Bnd) (va : Value) (b : List Bnd) (vb : Value) (c : List Bnd) (vc : Value) (w : World) (ha : IsBnds w va a) (hb : IsBnds w vb b) (hc : IsBnds w vc c) (hx : Lx w) :
    Calls Tryd.prog 4 #[matV va, matV vb, matV vc] w fun e w' => e = .returned (.bool true) ∧ Below w.heap.size w w' := by
  have HA := Lib.hid ha
  have HB := Lib.hid hb
  have HC := Lib.hid hc
  have HX := Lib.hid hx
  obtain ⟨A, ca, rfl, hca, hcm, -⟩ := ha
  have hna := len_i64 hca hcm
  obtain ⟨B, cb, rfl, -⟩ := hb
  obtain ⟨C, cc, rfl, -⟩ := hc
  clear hx hcm
  unfold matV
  obtain ⟨t, ht⟩ : ∃ t, fewM [a, b, c] = t := ⟨_, rfl⟩
  have HS := Lib.hid ht
  clear ht
  go_enter Tryd.func4, Tryd.ntmps4
  go_wp2_with fail
  refine calls_gen fun W1 e1 => ?_
  have c0 : W1.cell? ⟨w.heap.size, 0, none⟩ = some (.slice A a.length ca) := by rw [e1]; go_simp
  have c1 : W1.cell? ⟨w.heap.size + 1, 0, none⟩ = some (.slice B b.length cb) := by rw [e1]; go_simp
  have c2 : W1.cell? ⟨w.heap.size + 2, 0, none⟩ = some (.slice C c.length cc) := by rw [e1]; go_simp
  have y0 : W1.cell? ⟨w.heap.size + 3, 0, none⟩ = some (.slice A a.length ca) := by rw [e1]; go_simp
  have y1 : W1.cell? ⟨w.heap.size + 3, 1, none⟩ = some (.slice B b.length cb) := by rw [e1]; go_simp
  have y2 : W1.cell? ⟨w.heap.size + 3, 2, none⟩ = some (.slice C c.length cc) := by rw [e1]; go_simp
  have hb1 : Below w.heap.size w W1 := by rw [e1]; exact (by repeat (first | exact Below.refl _ _ | assumption | refine Below.drew ?_ | refine bel_al ?_ _ | refine bel_set ?_ (by omega) _ | refine bel_tr ?_ (by assumption)))
  clear e1
  refine (few17_any [a, b, c] _ W1 (mats_three y0 y1 y2 (HA.out.stays bndAt_stays hb1) (HB.out.stays bndAt_stays hb1) (HC.out.stays bndAt_stays hb1))).mono ?_
  rw [HS.out]
  rintro e w2 ⟨rfl, rfl⟩
  have HB1 := Lib.hid hb1
  clear y0 y1 y2 hb1
  obtain ⟨V, hV⟩ : ∃ V, V = w.heap.size + 2 := ⟨_, rfl⟩
  obtain ⟨Y, hY⟩ : ∃ Y, Y = w.heap.size + 1 := ⟨_, rfl⟩
  obtain ⟨X, hX⟩ : ∃ X, X = w.heap.size := ⟨_, rfl⟩
  rw [← hV] at c2
  rw [← hY] at c1
  rw [← hX] at c0
  rw [← hV, ← hY, ← hX]
  clear hX hY hV
  cases t with
  | false =>
    go_wp2_with fail
    refine (awake_any _ (HX.out.stays HB1.out)).mono ?_
    rintro e w3 ⟨rfl, hb3⟩
    go_wp2_with fail
    go_ret
    exact ⟨rfl, bel_tr HB1.out hb3⟩
  | true =>
    go_wp2_with fail
    refine wp_region_F (fun W => W.cell? ⟨X, 0, none⟩ = some (.slice A a.length ca) ∧ W.cell? ⟨Y, 0, none⟩ = some (.slice B b.length cb) ∧ W.cell? ⟨V, 0, none⟩ = some (.slice C c.length cc)) (by repeat (first | exact grows_cell _ _ _ | exact grows_true | refine grows_and ?_ ?_)) (by kernel_rfl) (by kernel_rfl) ?hF ?_; (case hF => (first | exact ⟨‹_›, ‹_›⟩ | (go_simp; done) | (simp [*]; done) | (repeat' (first | (refine And.intro ?_ ?_) | (go_simp; done) | exact cell_stays (bel_al (Below.refl _ _) _) (by assumption) | assumption)))); intro hne hxx; have hG : Hid (Grows (fun W => W.cell? ⟨X, 0, none⟩ = some (.slice A a.length ca) ∧ W.cell? ⟨Y, 0, none⟩ = some (.slice B b.length cb) ∧ W.cell? ⟨V, 0, none⟩ = some (.slice C c.length cc))) := (by repeat (first | exact grows_cell _ _ _ | exact grows_true | refine grows_and ?_ ?_)); (repeat (go_big_quiet_step ((go_at_call 9; exact cls_callB hG (fun W hW => cmpB _ _ _ _ W (by first | exact (HA.out.stays bndAt_stays HB1.out).stays bndAt_stays hW | exact (HB.out.stays bndAt_stays HB1.out).stays bndAt_stays hW) (by first | exact (HB.out.stays bndAt_stays HB1.out).stays bndAt_stays hW | exact (HC.out.stays bndAt_stays HB1.out).stays bndAt_stays hW)))))); clear hG hxx hne; refine wpQuiet_nil ?_; rintro wq ⟨⟨w', hb', hF'⟩, rfl⟩
    obtain ⟨c0, c1, c2⟩ := hF'
    have HB2 := Lib.hid hb'
    clear hb'
    obtain ⟨o1, o2, o3, o4⟩ := bsC_order a b c
    have u1 := bsC_unit a b
    have u2 := bsC_unit b c
    have HBA : Hid (∀ W, Below wq.heap.size wq W → Calls Tryd.prog 9 #[.agg #[.slice B b.length cb], .agg #[.slice A a.length ca]] W fun e w' => e = .returned (.int .i64 (-bsC a b)) ∧ Below W.heap.size W w') := Lib.hid (fun W hW => by
      have h := cmpB b a (.slice B b.length cb) (.slice A a.length ca) W (HB.out.stays bndAt_stays (bel_tr (bel_tr HB1.out HB2.out) hW)) (HA.out.stays bndAt_stays (bel_tr (bel_tr HB1.out HB2.out) hW))
      rwa [show bsC b a = -bsC a b by omega] at h)
    have HEQ : Hid (∀ W, Below wq.heap.size wq W → Calls Tryd.prog 10 #[.slice A a.length ca, .slice B b.length cb] W fun e w' => e = .returned (.bool (decide (bsC a b = 0))) ∧ Below W.heap.size W w') := Lib.hid (fun W hW => by
      have h := equalB_any a b (.slice A a.length ca) (.slice B b.length cb) W (HA.out.stays bndAt_stays (bel_tr (bel_tr HB1.out HB2.out) hW)) (HB.out.stays bndAt_stays (bel_tr (bel_tr HB1.out HB2.out) hW))
      rwa [show decide (a = b) = decide (bsC a b = 0) from decide_eq_decide.2 o2.symm] at h)
    obtain ⟨x, hx⟩ : ∃ x, bsC a b = x := ⟨_, rfl⟩
    obtain ⟨y, hy⟩ : ∃ y, bsC b c = y := ⟨_, rfl⟩
    obtain ⟨z, hz⟩ : ∃ z, bsC a c = z := ⟨_, rfl⟩
    rw [hx, hy, hz]
    rw [hx] at u1 o3 o4 HBA HEQ
    rw [hy] at u2 o3 o4
    rw [hz] at o3 o4
    clear o1 o2 hx hy hz
    by_cases hn0 : a.length = 0
    · have hn0' : ¬ (0 : Int) < (a.length : Int) := by omega
      clear hn0
      rcases u1 with rfl | rfl | rfl <;> rcases u2 with rfl | rfl | rfl
      all_goals
        try (have hz1 : decide (0 < z) = false := decide_eq_false (by omega))
        try (have hz2 : decide (z < 0) = false := decide_eq_false (by omega))
        clear o3 o4
        go_wp2_with fail
        refine (HBA.out _ (Below.refl _ _)).mono ?_
        rintro e w3 ⟨rfl, hb3⟩
        replace c0 := cell_stays hb3 c0
        replace c1 := cell_stays hb3 c1
        have HB3 := Lib.hid hb3
        clear hb3
        go_wp2_with fail
        refine (HEQ.out _ HB3.out).mono ?_
        rintro e w4 ⟨rfl, hb4⟩
        replace c0 := cell_stays hb4 c0
        have HB4 := Lib.hid (bel_tr HB3.out hb4)
        clear hb4
        go_wp2_with fail
        refine (awake_any _ (HX.out.stays (bel_tr (bel_tr HB1.out HB2.out) HB4.out))).mono ?_
        rintro e w8 ⟨rfl, hb8⟩
        go_wp2_with fail
        go_ret
        exact ⟨rfl, bel_tr (bel_tr (bel_tr HB1.out HB2.out) HB4.out) hb8⟩
    · obtain ⟨m, hm⟩ : ∃ m, a.length = m + 1 := ⟨a.length - 1, by omega⟩
      have HPF : Hid (∀ W, Below wq.heap.size wq W → Calls Tryd.prog 9 #[.agg #[.slice A m ca], .agg #[.slice A (m + 1) ca]] W fun e w' => e = .returned (.int .i64 (-1)) ∧ Below W.heap.size W w') := Lib.hid (fun W hW => by
        have hA := HA.out.stays bndAt_stays (bel_tr (bel_tr HB1.out HB2.out) hW)
        have h := cmpB (a.take m) a (.slice A m ca) (.slice A a.length ca) W (bnds_take hA m (by omega)) hA
        rw [bsC_prefix a m (by omega), hm] at h
        exact h)
      rw [hm] at HBA HEQ c0 hna ⊢
      have hmc : m + 1 ≤ ca := by omega
      clear hn0 hm hca
      rcases u1 with rfl | rfl | rfl <;> rcases u2 with rfl | rfl | rfl
      all_goals
        try (have hz1 : decide (0 < z) = false := decide_eq_false (by omega))
        try (have hz2 : decide (z < 0) = false := decide_eq_false (by omega))
        clear o3 o4
        go_wp2_with fail
        refine (HBA.out _ (Below.refl _ _)).mono ?_
        rintro e w3 ⟨rfl, hb3⟩
        replace c0 := cell_stays hb3 c0
        replace c1 := cell_stays hb3 c1
        have HB3 := Lib.hid hb3
        clear hb3
        go_wp2_with fail
        refine (HEQ.out _ HB3.out).mono ?_
        rintro e w4 ⟨rfl, hb4⟩
        replace c0 := cell_stays hb4 c0
        have HB4 := Lib.hid (bel_tr HB3.out hb4)
        clear hb4
        go_wp2_with fail
        refine wp_region_F (fun W => W.cell? ⟨X, 0, none⟩ = some (.slice A (m + 1) ca)) (by repeat (first | exact grows_cell _ _ _ | exact grows_true | refine grows_and ?_ ?_)) (by kernel_rfl) (by kernel_rfl) ?hF ?_; (case hF => (first | exact ⟨‹_›, ‹_›⟩ | (go_simp; done) | (simp [*]; done) | (repeat' (first | (refine And.intro ?_ ?_) | (go_simp; done) | exact cell_stays (bel_al (Below.refl _ _) _) (by assumption) | assumption)))); intro hne hxx; have hG : Hid (Grows (fun W => W.cell? ⟨X, 0, none⟩ = some (.slice A (m + 1) ca))) := (by repeat (first | exact grows_cell _ _ _ | exact grows_true | refine grows_and ?_ ?_)); (repeat (go_big_quiet_step ((go_at_call 9; exact cls_callB hG (fun W hW => HPF.out W (bel_tr HB4.out hW)))))); clear hG hxx hne; refine wpQuiet_nil ?_; rintro wq ⟨⟨w', hb', hF'⟩, rfl⟩
        clear hF'
        have HB5 := Lib.hid (bel_tr HB4.out hb')
        clear hb'
        go_wp2_with fail
        refine (awake_any _ (HX.out.stays (bel_tr (bel_tr HB1.out HB2.out) HB5.out))).mono ?_
        rintro e w8 ⟨rfl, hb8⟩
        go_wp2_with fail
        go_ret
        exact ⟨rfl, bel_tr (bel_tr (bel_tr HB1.out HB2.out) HB5.out) hb8⟩
-- FRAME
set_option maxRecDepth 100000 in
theorem orders_lifted (os : Os) (started : os.Started) (H : Type) (enc : TypeId × Value → H) :
    ReturnsInHanded {} Tryd.checked os 4 .any (fun w args => (Rows.matchOrdersSpec.pre enc Tryd.prog Tryd.f4 [] false w args ∧ laidMetH Tryd.prog theLaid w) ∧ sizedMet enc Tryd.prog Tryd.f4 (OpenSpec.ofChange Rows.matchOrdersSpec) false w args)
      (Rows.matchOrdersSpec.post enc Tryd.prog Tryd.f4 false true false false) := by
  refine handed_shaped_and (C := Tryd.checked) (X := fun w _ => laidMetH Tryd.prog theLaid w) (fun _ _ _ hh h => h.of_heap hh) own_none started (by kernel_rfl) Tryd.func4
    (ChangeSpec.witness_shaped (enc := enc) (C := Tryd.checked) (os := os) (X := fun w _ => laidMetH Tryd.prog theLaid w) false (World.doorLaid Tryd.prog 400 os) #[.agg #[.slice none 0 0], .agg #[.slice none 0 0], .agg #[.slice none 0 0]] 8 rfl (World.shaped_of_RefB (by kernel_rfl) (by kernel_rfl)) (by kernel_rfl) (by kernel_rfl) (by kernel_rfl) (door_met os _)) ?_
  intro W base args ds gs before hval0 hW _ hsh hL _
  have htab : Lx W := ⟨tab_of_laid hL, Tryd.laysM144.s1_3 W hsh⟩
  have hval : ∀ (j : Nat) t v, Tryd.f4.params[j]? = some t → args[j]? = some v → Value.okWide Tryd.prog W .any base t v := hval0
  have hW' := hW
  obtain ⟨p, q, hA0, hV, rfl, hfz, hnd⟩ := hW
  have hA : DataW.TrodAll enc Tryd.prog W 0 (fun _ => true) true Tryd.f4.params.toList args.toList ds p := hA0
  rw [Tryd.params4] at hA hval
  obtain ⟨v0, vs0, d0, ds0, p0, q0, hargs, rfl, rfl, h0, r0⟩ := trodAll_cons hA
  obtain ⟨v1, vs1, d1, ds1, p1, q1, rfl, rfl, rfl, h1, r1⟩ := trodAll_cons r0
  obtain ⟨v2, vs2, d2, ds2, p2, q2, rfl, rfl, rfl, h2, r2⟩ := trodAll_cons r1
  obtain ⟨rfl, rfl, rfl⟩ := trodAll_nil r2
  obtain rfl : args = #[v0, v1, v2] := by cases args; simp_all
  obtain ⟨rfl, rfl⟩ := trodVars_none hV
  have k0 := h0
  have lt0 : ∀ x ∈ p0, x.block < W.heap.size := by obtain ⟨m, hm⟩ := k0; exact DataW.trod_lt m _ _ _ hm
  obtain ⟨u0, l0, rfl, w0⟩ := read_mat_by_value (hval 0 24 v0 rfl rfl) h0
  have k1 := h1
  have lt1 : ∀ x ∈ p1, x.block < W.heap.size := by obtain ⟨m, hm⟩ := k1; exact DataW.trod_lt m _ _ _ hm
  obtain ⟨u1, l1, rfl, w1⟩ := read_mat_by_value (hval 1 24 v1 rfl rfl) h1
  have k2 := h2
  have lt2 : ∀ x ∈ p2, x.block < W.heap.size := by obtain ⟨m, hm⟩ := k2; exact DataW.trod_lt m _ _ _ hm
  obtain ⟨u2, l2, rfl, w2⟩ := read_mat_by_value (hval 2 24 v2 rfl rfl) h2
  clear hA0 hval0
  refine (orders_walk l0 u0 l1 u1 l2 u2 W w0 w1 w2 htab).mono fun e W' ⟨he, bel⟩ => ?_
  subst he
  exact ⟨_, rfl, _, _, _, [], _, [], hW', trodAll_mk1 (shut_bool Tryd.underlying4 _), (trodAll_cons_mk (Below.trod laid_out (by kernel_rfl) (of_decide_eq_true (by kernel_rfl)) k0 bel lt0) (trodAll_cons_mk (Below.trod laid_out (by kernel_rfl) (of_decide_eq_true (by kernel_rfl)) k1 bel lt1) (trodAll_cons_mk (Below.trod laid_out (by kernel_rfl) (of_decide_eq_true (by kernel_rfl)) k2 bel lt2) trodAll_mk0))), rfl, bel.frame _, fun h => by cases h⟩

theorem orders_holds : Rows.MatchOrdersSaid :=
  OpenClaim.holds_of_wide 4 Tryd.f4 rfl rfl rfl rfl rfl rfl rfl ⟨rfl, rfl, rfl, rfl, rfl⟩ rfl rfl rfl rfl rfl (by kernel_rfl) Tryd.func4 (by kernel_rfl)
    (of_decide_eq_true (by kernel_rfl)) (by unfold Func.isWrapper; first | (rw [if_pos (by decide +kernel)]; kernel_rfl) | (rw [if_neg (by decide +kernel)]; exact ⟨rfl, rfl⟩))
    (fun os started H enc _ => orders_lifted os started H enc)

theorem orders_card : Rows.MatchOrdersCardSaid :=
  Claim7.holds_tied_plain_at .later [] [.data, .data, .data] true _ false
    orders_holds (fun _ h => by cases h) (by kernel_rfl) (fun _ h => by cases h) matchOrders_row_tie rfl ⟨rfl, rfl⟩ (by kernel_rfl) rfl
    (fun f fn hf hfn => by
      obtain rfl : f = 4 := Option.some.inj ((show Tryd.prog.funcNamed "tidegate/tidegatelaw17.MatchOrders" = some 4 by kernel_rfl).symm.trans hf) |>.symm
      obtain rfl : fn = Tryd.f4 := (Option.some.inj (Tryd.func4.symm.trans hfn)).symm
      exact ⟨by kernel_rfl, fun j t ht => by
        rw [Tryd.params4] at ht
        have hm : t ∈ [24, 24, 24] := by simpa using Array.mem_of_getElem? ht
        have hall : ([24, 24, 24].all fun u => !Tryd.prog.wantsStandIn u) = true := by kernel_rfl
        exact (show Tryd.prog.wantsStandIn t = false by simpa using List.all_eq_true.1 hall t hm)⟩)
    (by kernel_rfl)
#print axioms orders_card
end Go.Proofs.YtclpglgigpjfoaaDoor
