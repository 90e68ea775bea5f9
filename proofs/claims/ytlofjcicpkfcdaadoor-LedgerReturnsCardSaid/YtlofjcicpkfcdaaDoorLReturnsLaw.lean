/- The law LedgerReturns: applying the difference of two ledgers to the first one yields the second one; it consists of retractions, followed by emissions, and is empty exactly for equal ledgers. No condition beyond the row's own. -/
import Derived.Test.YtlofjcicpkfcdaaDoorTie
import Derived.Test.YtlofjcicpkfcdaaDoorCards
import Derived.Test.YtlofjcicpkfcdaaDoorLopen
import Derived.Test.YtlofjcicpkfcdaaDoorLawake
import Derived.Test.YtlofjcicpkfcdaaDoorLsmall
import Derived.Test.YtlofjcicpkfcdaaDoorLlaws
namespace Go.Proofs.YtlofjcicpkfcdaaDoor
open Go.ChangeShapes Go.WideShapes Go.ChangeAt Go.RowKit Go.Deep Go.Shelf

structure ReturnsOk (a b : List Ety) (D : List Chg) : Prop where
  diff : diffR a b = (D, 0)
  app : applyR a D = (b, 0)
  len : D.length ≤ 1200
  emp : D.length = 0 ↔ a = b
  asc : D.Pairwise (fun c d => c.sg ≤ d.sg)
  one : ∀ c ∈ D, ∀ d ∈ D, d.q = c.q → d.bs = c.bs → d.sg = c.sg
theorem returns_ok {a b : List Ety} (ha : Small a) (hb : Small b) : ∃ D, ReturnsOk a b D := by
  obtain ⟨h1, h2, h3, h4⟩ := diff_ok ha hb
  have fa := ha.few
  have sa := ha.sum
  refine ⟨_, h1, ?_, by omega, ?_, adds_sorted, fun c hc d hd => adds_one h4 hc hd⟩
  · rw [(apply_ok (cs := addsBoth (gapsOf a b)) ha.ok (adds_good h3) (by omega) (by omega)).1, sum_is hb.led fun q bs => by
      rw [cnt_app, cnt_adds]
      unfold gapsOf
      rw [sum0.2, cnt_app, cnt_neg]; omega]
  · have h5 := adds_len (gapsOf a b)
    constructor
    · intro h0
      have hg : gapsOf a b = [] := by
        cases hg : gapsOf a b with
        | nil => rfl
        | cons x l =>
          rw [hg] at h5 h4 h0
          rw [h0, sumA_cons] at h5
          have := sumA_ge l
          have hx := h4.2 x (List.mem_cons_self ..)
          exfalso
          revert h5 hx
          unfold absI
          split <;> omega
      refine led_uniq ha.led hb.led fun q bs => ?_
      have h6 := (sum0 (L := neg a ++ b)).2 q bs
      unfold gapsOf at hg
      rw [hg, cnt_app, cnt_neg] at h6
      simp only [cnt] at h6
      omega
    · intro h0
      subst h0
      have hg : gapsOf a a = [] := sum_is Led.nil fun q bs => by rw [cnt_app, cnt_neg]; simp only [cnt]; omega
      rw [hg]; rfl

def opp (c x : Chg) : Bool := (x.sg != c.sg) && (x.q == c.q) && (bsC x.bs c.bs == 0)
theorem opp_no {D : List Chg} (h : ∀ c ∈ D, ∀ d ∈ D, d.q = c.q → d.bs = c.bs → d.sg = c.sg) {c : Chg} (hc : c ∈ D) : D.any (opp c) = false := by
  rw [List.any_eq_false]
  intro d hd h1
  unfold opp at h1
  simp only [Bool.and_eq_true, bne_iff_ne, beq_iff_eq] at h1
  exact h1.1.1 (h c hc d hd h1.1.2 (bsC_eq.1 h1.2))

set_option maxHeartbeats 1000000 in
theorem oppP_any (c x : Chg) (u v : Value) (X : Nat) (w : World) (hu : IsBnds w u x.bs) (hv : IsBnds w v c.bs) (h0 : w.cell? ⟨X, 0, none⟩ = some (.int .i64 c.sg)) (h1 : w.cell? ⟨X, 1, none⟩ = some (.int .i64 c.q)) (h2 : w.cell? ⟨X, 2, none⟩ = some v) :
    Calls Tryd.prog 14 #[.agg #[.int .i64 x.sg, .int .i64 x.q, u], .pointer (some ⟨X, 0, none⟩)] w fun e w' => e = .returned (.bool (opp c x)) ∧ Below w.heap.size w w' := by
  have HU := Lib.hid hu
  have HV := Lib.hid hv
  obtain ⟨A, cu, rfl, -⟩ := hu
  obtain ⟨B, cv, rfl, -⟩ := hv
  have hl0 : X < w.heap.size := by have := World.block_lt_of_cell? w ⟨X, 0, none⟩ h0; simpa using this
  have hn : X ≠ w.heap.size := by omega
  have hn' : w.heap.size ≠ X := by omega
  by_cases hs : x.sg = c.sg
  · have hs' : (x.sg != c.sg) = false := by simpa using hs
    have hr : opp c x = false := by simp [opp, hs']
    rw [hr]
    clear hr hs
    go_enter Tryd.func14, Tryd.ntmps14
    go_wp2_with fail
    go_ret
    exact ⟨rfl, (by repeat (first | exact Below.refl _ _ | assumption | refine Below.drew ?_ | refine bel_al ?_ _ | refine bel_set ?_ (by omega) _ | refine bel_tr ?_ (by assumption)))⟩
  have hs' : (x.sg != c.sg) = true := by simpa using hs
  clear hs
  by_cases hq : x.q = c.q
  case neg =>
    have hq' : (x.q == c.q) = false := by simpa using hq
    have hr : opp c x = false := by simp [opp, hq']
    rw [hr]
    clear hr hq
    go_enter Tryd.func14, Tryd.ntmps14
    go_wp2_with fail
    go_ret
    exact ⟨rfl, (by repeat (first | exact Below.refl _ _ | assumption | refine Below.drew ?_ | refine bel_al ?_ _ | refine bel_set ?_ (by omega) _ | refine bel_tr ?_ (by assumption)))⟩
  have hq' : (x.q == c.q) = true := by simpa using hq
  clear hq
  obtain ⟨r, hr⟩ : ∃ r, bsC x.bs c.bs = r := ⟨_, rfl⟩
  have HR := Lib.hid hr
  have ho : opp c x = (r == 0) := by simp [opp, hs', hq', hr]
  rw [ho]
  clear hr ho
  go_enter Tryd.func14, Tryd.ntmps14
  go_wp2_with fail
  refine (rcompare_any x.bs c.bs _ _ _ (HU.out.stays bndAt_stays (by repeat (first | exact Below.refl _ _ | assumption | refine Below.drew ?_ | refine bel_al ?_ _ | refine bel_set ?_ (by omega) _ | refine bel_tr ?_ (by assumption)))) (HV.out.stays bndAt_stays (by repeat (first | exact Below.refl _ _ | assumption | refine Below.drew ?_ | refine bel_al ?_ _ | refine bel_set ?_ (by omega) _ | refine bel_tr ?_ (by assumption))))).mono ?_
  rw [HR.out]
  rintro e w3 ⟨rfl, hg3⟩
  have hb3 := bel_tr (bel_one _ _) hg3.below
  go_wp2_with fail
  go_ret
  exact ⟨rfl, hb3⟩
theorem enter_opp (args : Array Value) (W : World) : (callFunc 14 args).run Tryd.prog W = .ok (.enter 14 args) W := enters_of Tryd.func14 (by kernel_rfl) rfl args W

set_option maxRecDepth 100000 in
set_option maxHeartbeats 4000000 in
theorem returns_walk (a : List Ety) (va : Value) (b : List Ety) (vb : Value) (w : World) (ha : IsEnts w va a) (hb : IsEnts w vb b) (htab : Tab w) :
    Calls Tryd.prog 3 #[va, vb] w fun e w' => e = .returned (.bool true) ∧ Below w.heap.size w w' := by
  have HA := Lib.hid ha
  have HB := Lib.hid hb
  have HT := Lib.hid htab
  obtain ⟨A, ca, rfl, -⟩ := ha
  obtain ⟨B, cb, rfl, -⟩ := hb
  clear htab
  obtain ⟨t, ht⟩ : ∃ t, [a, b].any badL = t := ⟨_, rfl⟩
  have HS := Lib.hid ht
  clear ht
  go_enter Tryd.func3, Tryd.ntmps3
  go_wp2_with fail
  refine calls_gen fun W1 e1 => ?_
  have y0 : W1.cell? ⟨w.heap.size, 0, none⟩ = some (.slice A a.length ca) := by rw [e1]; go_simp
  have y1 : W1.cell? ⟨w.heap.size, 1, none⟩ = some (.slice B b.length cb) := by rw [e1]; go_simp
  have hb1 : Below w.heap.size w W1 := by rw [e1]; exact (by repeat (first | exact Below.refl _ _ | assumption | refine Below.drew ?_ | refine bel_al ?_ _ | refine bel_set ?_ (by omega) _ | refine bel_tr ?_ (by assumption)))
  clear e1
  refine (small_any [a, b] _ W1 (leds_two y0 y1 (HA.out.stays entAt_stays hb1) (HB.out.stays entAt_stays hb1))).mono ?_
  rw [HS.out]
  rintro e w2 ⟨rfl, hb2⟩
  have HB2 := Lib.hid (bel_tr hb1 hb2)
  clear y0 y1 hb1 hb2
  cases t with
  | true =>
    go_wp2_with fail
    refine (awake_any _ (HT.out.stays HB2.out)).mono ?_
    rintro e w3 ⟨rfl, hb3⟩
    go_wp2_with fail
    go_ret
    exact ⟨rfl, bel_tr HB2.out hb3⟩
  | false =>
    have hs := HS.out
    simp only [List.any_cons, List.any_nil, Bool.or_false, Bool.or_eq_false_iff] at hs
    obtain ⟨D, hm⟩ := returns_ok (small_of hs.1) (small_of hs.2)
    have HM := Lib.hid hm
    clear hm hs
    go_wp2_with fail
    refine (diff_any a b _ _ w2 (HA.out.stays entAt_stays HB2.out) (HB.out.stays entAt_stays HB2.out) (HT.out.stays HB2.out)).mono ?_
    rw [HM.out.diff]
    rintro e w3 ⟨v3, rfl, hv3, hb3⟩
    have H3 := Lib.hid hv3
    obtain ⟨A3, c3, rfl⟩ := sl_len hv3 rfl
    have HB3 := Lib.hid (bel_tr HB2.out hb3)
    clear hv3 hb3
    go_wp2_with fail
    refine (apply_any a D _ _ w3 (HA.out.stays entAt_stays HB3.out) H3.out (HT.out.stays HB3.out)).mono ?_
    rw [HM.out.app]
    rintro e w4 ⟨v4, rfl, hv4, hb4⟩
    have H4 := Lib.hid hv4
    have H34 := Lib.hid (H3.out.stays chgAt_stays hb4)
    obtain ⟨A4, c4, rfl⟩ := sl_len hv4 rfl
    have HB4 := Lib.hid (bel_tr HB3.out hb4)
    clear hv4 hb4
    go_wp2_with fail
    refine (rsame_any b b _ _ w4 H4.out (HB.out.stays entAt_stays HB4.out)).mono ?_
    rw [decide_eq_true rfl]
    rintro e w5 ⟨rfl, hb5⟩
    have H35 := Lib.hid (H34.out.stays chgAt_stays hb5)
    have HB5 := Lib.hid (bel_tr HB4.out hb5)
    clear hb5
    have hd12 := HM.out.len
    obtain ⟨z, hz⟩ : ∃ z : Bool, decide (a = b) = z := ⟨_, rfl⟩
    have hz0 : ((D.length : Int) == 0) = z := by
      rw [← hz]
      by_cases h : a = b
      · have := HM.out.emp.2 h
        simp [h, this]
      · have : ¬ D.length = 0 := fun h0 => h (HM.out.emp.1 h0)
        simp [h]; intro h0; exact this (by rw [h0]; rfl)
    have HZ := Lib.hid hz
    clear hz
    go_wp2_with fail
    refine (rsame_any a b _ _ w5 (HA.out.stays entAt_stays HB5.out) (HB.out.stays entAt_stays HB5.out)).mono ?_
    rw [HZ.out]
    rintro e w6 ⟨rfl, hb6⟩
    have H36 := Lib.hid (H35.out.stays chgAt_stays hb6)
    have HB6 := Lib.hid (bel_tr HB5.out hb6)
    clear hb6
    go_wp2_with fail
    clear hz0
    have hD3 := H36.out
    obtain ⟨_, _, hv, hl1, hl2, hat⟩ := hD3
    injection hv with e1 e2 e3
    subst e1
    rw [← e3] at hl1 hl2
    have HL := Lib.hid hat
    have hn := len_i64 hl1 hl2
    clear hat hl1 hl2 e2 e3
    go_loopw [52] (fun i wr => ∃ k : Nat, k ≤ D.length ∧ i = .int .i64 k ∧ Below w6.heap.size w6 wr) (fun i _ => D.length - (intOf i).toNat)
    case atStart => exact ⟨0, Nat.zero_le _, rfl, Below.refl _ _⟩
    case round =>
      obtain ⟨k, hk, rfl, hbr⟩ := hrel
      by_cases hlt : k < D.length
      · have hk' : (k : Int) < (D.length : Int) := by omega
        obtain ⟨b1, o1, rfl, v', hv', c0, c1, c2⟩ := HL.out k D[k] (List.getElem?_eq_getElem hlt)
        replace c0 := cell_stays hbr c0
        replace c1 := cell_stays hbr c1
        replace c2 := cell_stays hbr c2
        have hop := opp_no HM.out.one (List.getElem_mem hlt)
        have hget := Lib.hid (List.getElem?_eq_getElem hlt)
        obtain ⟨x, hx⟩ : ∃ x, x = D[k] := ⟨_, rfl⟩
        rw [← hx] at hget c0 c1 hv' hop
        have HOP := Lib.hid hop
        have HV := Lib.hid (hv'.stays bndAt_stays hbr)
        obtain ⟨A', c', rfl, -⟩ := hv'
        have hbl : b1 < wr.heap.size := World.block_lt_of_cell? wr ⟨b1, _, none⟩ c0
        have hnb : b1 ≠ wr.heap.size := by omega
        have hnb' : wr.heap.size ≠ b1 := by omega
        clear hx hop
        go_wp2_with fail
        refine wp_gen fun w7 e7 => ?_
        obtain ⟨X, hX⟩ : ∃ X, wr.heap.size = X := ⟨_, rfl⟩
        have hb7 : Below wr.heap.size wr w7 := by rw [e7]; exact (by repeat (first | exact Below.refl _ _ | assumption | refine Below.drew ?_ | refine bel_al ?_ _ | refine bel_set ?_ (by omega) _ | refine bel_tr ?_ (by assumption)))
        have z0 : w7.cell? ⟨wr.heap.size, 0, none⟩ = some (.int .i64 x.sg) := by rw [e7]; go_simp
        have z1 : w7.cell? ⟨wr.heap.size, 1, none⟩ = some (.int .i64 x.q) := by rw [e7]; go_simp
        have z2 : w7.cell? ⟨wr.heap.size, 2, none⟩ = some (.slice A' x.bs.length c') := by rw [e7]; go_simp
        rw [hX] at z0 z1 z2 ⊢
        have hb67 := bel_tr hbr hb7
        have HCON : Hid (∀ W : World, Below w7.heap.size w7 W → Calls Tryd.prog 13 #[.slice (some ⟨b1, o1, none⟩) D.length c3, .func (.func 14) #[] #[.pointer (some ⟨X, 0, none⟩)]] W fun e W' => e = .returned (.bool false) ∧ Below W.heap.size W W') := Lib.hid fun W hW => by
          have h9 := containsChgs_any 14 [.pointer (some ⟨X, 0, none⟩)] (opp x) D _ W (H36.out.stays chgAt_stays (bel_tr hb67 hW)) enter_opp (fun W2 y u hW2 hy hu => by
            have hb := bel_tr hW hW2
            exact oppP_any x y u _ X W2 hu (HV.out.stays bndAt_stays (bel_tr hb7 hb)) (cell_stays hb z0) (cell_stays hb z1) (cell_stays hb z2))
          rw [HOP.out] at h9
          exact h9
        clear e7 hX c0 c1 c2 hnb hnb' hbl hb7
        by_cases hk0 : k = 0
        · have d1 : decide (0 < k) = false := by simp [hk0]
          have d2 : decide ((0 : Int) < (k : Int)) = false := by simp [hk0]
          clear hk0
          refine wp_region_F (fun W => W.cell? ⟨X, 0, none⟩ = some (.int .i64 x.sg)) (by repeat (first | exact grows_cell _ _ _ | exact grows_true | refine grows_and ?_ ?_)) (by kernel_rfl) (by kernel_rfl) ?hF ?_; (case hF => (first | exact ⟨‹_›, ‹_›⟩ | (go_simp; done) | (simp [*]; done) | (repeat' (first | (refine And.intro ?_ ?_) | (go_simp; done) | exact cell_stays (bel_al (Below.refl _ _) _) (by assumption) | assumption)))); intro hne hxx; have hG : Hid (Grows (fun W => W.cell? ⟨X, 0, none⟩ = some (.int .i64 x.sg))) := (by repeat (first | exact grows_cell _ _ _ | exact grows_true | refine grows_and ?_ ?_)); (repeat (go_big_quiet_step ((go_at_call 13; exact cls_callB hG (fun W hW => HCON.out W hW))))); clear hG hxx hne; refine wpQuiet_nil ?_; rintro _ ⟨⟨w', hb', hF'⟩, rfl⟩
          go_wp2_with fail
          go_roundw
          case rel => exact ⟨k + 1, by omega, by go_num, bel_tr hb67 hb'⟩
          case measure => simp [intOf]; omega
        · have hk1 : (0 : Int) ≤ (k : Int) - 1 := by omega
          have hk2 : (k : Int) - 1 < (D.length : Int) := by omega
          have d1 : decide (0 < k) = true := by simp; omega
          have d2 : decide ((0 : Int) < (k : Int)) = true := by simp; omega
          obtain ⟨_, _, hbo, v2, hv2, p0, p1, p2⟩ := HL.out (k - 1) D[k - 1] (List.getElem?_eq_getElem (by omega))
          simp only [Option.some.injEq, Addr.mk.injEq, and_true] at hbo
          obtain ⟨rfl, rfl⟩ := hbo
          replace p0 := cell_stays hb67 p0
          have hasc := List.pairwise_iff_getElem.1 HM.out.asc (k - 1) k (by omega) hlt (by omega)
          obtain ⟨p, hp⟩ : ∃ p, p = D[k - 1] := ⟨_, rfl⟩
          have hxk : D[k] = x := by have := hget.out; rw [List.getElem?_eq_getElem hlt] at this; injection this
          rw [← hp] at p0 hasc
          rw [hxk] at hasc
          have d3 : decide (x.sg < p.sg) = false := by simp; omega
          have d4 : ¬ x.sg < p.sg := by omega
          clear hp p1 p2 hv2 hk0 hasc hxk
          refine wp_region_F (fun W => W.cell? ⟨X, 0, none⟩ = some (.int .i64 x.sg) ∧ W.cell? ⟨b1, o1 + (k - 1) * 3, none⟩ = some (.int .i64 p.sg)) (by repeat (first | exact grows_cell _ _ _ | exact grows_true | refine grows_and ?_ ?_)) (by kernel_rfl) (by kernel_rfl) ?hF ?_; (case hF => (first | exact ⟨‹_›, ‹_›⟩ | (go_simp; done) | (simp [*]; done) | (repeat' (first | (refine And.intro ?_ ?_) | (go_simp; done) | exact cell_stays (bel_al (Below.refl _ _) _) (by assumption) | assumption)))); intro hne hxx; have hG : Hid (Grows (fun W => W.cell? ⟨X, 0, none⟩ = some (.int .i64 x.sg) ∧ W.cell? ⟨b1, o1 + (k - 1) * 3, none⟩ = some (.int .i64 p.sg))) := (by repeat (first | exact grows_cell _ _ _ | exact grows_true | refine grows_and ?_ ?_)); (repeat (go_big_quiet_step ((go_at_call 13; exact cls_callB hG (fun W hW => HCON.out W hW))))); clear hG hxx hne; refine wpQuiet_nil ?_; rintro _ ⟨⟨w', hb', hF'⟩, rfl⟩
          go_wp2_with fail
          go_roundw
          case rel => exact ⟨k + 1, by omega, by go_num, bel_tr hb67 hb'⟩
          case measure => simp [intOf]; omega
      · have hk' : ¬ (k : Int) < (D.length : Int) := by omega
        go_wp2_with fail
        refine (awake_any _ (HT.out.stays (bel_tr HB6.out hbr))).mono ?_
        rintro e w9 ⟨rfl, hb9⟩
        go_wp2_with fail
        go_ret
        exact ⟨rfl, bel_tr (bel_tr HB6.out hbr) hb9⟩
-- FRAME
set_option maxRecDepth 100000 in
theorem returns_lifted (os : Os) (started : os.Started) (H : Type) (enc : TypeId × Value → H) :
    ReturnsInHanded {} Tryd.checked os 3 .any (fun w args => (Rows.ledgerReturnsSpec.pre enc Tryd.prog Tryd.f3 [] false w args ∧ laidMetH Tryd.prog theLaid w) ∧ sizedMet enc Tryd.prog Tryd.f3 (OpenSpec.ofChange Rows.ledgerReturnsSpec) false w args)
      (Rows.ledgerReturnsSpec.post enc Tryd.prog Tryd.f3 false true false false) := by
  refine returnsInHanded_of_change_and (C := Tryd.checked) (X := fun w _ => laidMetH Tryd.prog theLaid w) (fun _ _ _ hh h => h.of_heap hh) own_none started (by kernel_rfl) Tryd.func3
    (ChangeSpec.witness_shaped (enc := enc) (C := Tryd.checked) (os := os) (X := fun w _ => laidMetH Tryd.prog theLaid w) false (World.doorLaid Tryd.prog 400 os) #[.slice none 0 0, .slice none 0 0] 8 rfl (World.shaped_of_RefB (by kernel_rfl) (by kernel_rfl)) (by kernel_rfl) (by kernel_rfl) (by kernel_rfl) (door_met os _)) ?_
  intro W base args ds gs before hval0 hW _ _ hL _
  have htab := tab_of_laid hL
  have hval : ∀ (j : Nat) t v, Tryd.f3.params[j]? = some t → args[j]? = some v → Value.okWide Tryd.prog W .any base t v := hval0
  have hW' := hW
  obtain ⟨p, q, hA0, hV, rfl, hfz, hnd⟩ := hW
  have hA : DataW.TrodAll enc Tryd.prog W 0 (fun _ => true) true Tryd.f3.params.toList args.toList ds p := hA0
  rw [Tryd.params3] at hA hval
  obtain ⟨v0, vs0, d0, ds0, p0, q0, hargs, rfl, rfl, h0, r0⟩ := trodAll_cons hA
  obtain ⟨v1, vs1, d1, ds1, p1, q1, rfl, rfl, rfl, h1, r1⟩ := trodAll_cons r0
  obtain ⟨rfl, rfl, rfl⟩ := trodAll_nil r1
  obtain rfl : args = #[v0, v1] := by cases args; simp_all
  obtain ⟨rfl, rfl⟩ := trodVars_none hV
  have k0 := h0
  have lt0 : ∀ x ∈ p0, x.block < W.heap.size := by obtain ⟨m, hm⟩ := k0; exact DataW.trod_lt m _ _ _ hm
  obtain ⟨s0, len0, cap0, rfl⟩ := okWide_slice Tryd.underlying22 (hval 0 22 v0 rfl rfl)
  obtain ⟨l0, w0⟩ : ∃ l, IsEnts W (.slice s0 len0 cap0) l := by obtain ⟨fuel, hf⟩ := h0; exact read_ents (v := .slice s0 len0 cap0) hf
  have k1 := h1
  have lt1 : ∀ x ∈ p1, x.block < W.heap.size := by obtain ⟨m, hm⟩ := k1; exact DataW.trod_lt m _ _ _ hm
  obtain ⟨s1, len1, cap1, rfl⟩ := okWide_slice Tryd.underlying22 (hval 1 22 v1 rfl rfl)
  obtain ⟨l1, w1⟩ : ∃ l, IsEnts W (.slice s1 len1 cap1) l := by obtain ⟨fuel, hf⟩ := h1; exact read_ents (v := .slice s1 len1 cap1) hf
  clear hA0 hval0
  refine (returns_walk l0 _ l1 _ W w0 w1 htab).mono fun e W' ⟨he, bel⟩ => ?_
  subst he
  exact ⟨_, rfl, _, _, _, [], _, [], hW', trodAll_mk1 (shut_bool Tryd.underlying4 _), (trodAll_cons_mk (Below.trod laid_out (by kernel_rfl) (of_decide_eq_true (by kernel_rfl)) k0 bel lt0) (trodAll_cons_mk (Below.trod laid_out (by kernel_rfl) (of_decide_eq_true (by kernel_rfl)) k1 bel lt1) trodAll_mk0)), rfl, bel.frame _, fun h => by cases h⟩

theorem returns_holds : Rows.LedgerReturnsSaid :=
  OpenClaim.holds_of_wide 3 Tryd.f3 rfl rfl rfl rfl rfl rfl rfl ⟨rfl, rfl, rfl, rfl, rfl⟩ rfl rfl rfl rfl rfl (by kernel_rfl) Tryd.func3 (by kernel_rfl)
    (of_decide_eq_true (by kernel_rfl)) (by unfold Func.isWrapper; first | (rw [if_pos (by decide +kernel)]; kernel_rfl) | (rw [if_neg (by decide +kernel)]; exact ⟨rfl, rfl⟩))
    (fun os started H enc _ => returns_lifted os started H enc)

theorem returns_card : Rows.LedgerReturnsCardSaid :=
  Claim7.holds_tied_plain_at .later [] [.data, .data, .data] true _ false
    returns_holds (fun _ h => by cases h) (by kernel_rfl) (fun _ h => by cases h) ledgerReturns_row_tie rfl ⟨rfl, rfl⟩ (by kernel_rfl) rfl
    (fun f fn hf hfn => by
      obtain rfl : f = 3 := Option.some.inj ((show Tryd.prog.funcNamed "tidegate/tidegatelaw41.LedgerReturns" = some 3 by kernel_rfl).symm.trans hf) |>.symm
      obtain rfl : fn = Tryd.f3 := (Option.some.inj (Tryd.func3.symm.trans hfn)).symm
      exact ⟨by kernel_rfl, fun j t ht => by
        rw [Tryd.params3] at ht
        have hm : t ∈ [22] := by simpa using Array.mem_of_getElem? ht
        have hall : ([22].all fun u => !Tryd.prog.wantsStandIn u) = true := by kernel_rfl
        exact (show Tryd.prog.wantsStandIn t = false by simpa using List.all_eq_true.1 hall t hm)⟩)
    (by kernel_rfl)
#print axioms returns_card
end Go.Proofs.YtlofjcicpkfcdaaDoor
