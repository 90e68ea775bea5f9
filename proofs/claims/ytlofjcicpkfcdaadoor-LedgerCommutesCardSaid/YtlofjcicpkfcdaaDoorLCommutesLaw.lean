/- The law LedgerCommutes: the order of changes does not matter, they can be applied one after another, and their opposites cancel them. No condition beyond the row's own. -/
import Derived.Test.YtlofjcicpkfcdaaDoorTie
import Derived.Test.YtlofjcicpkfcdaaDoorCards
import Derived.Test.YtlofjcicpkfcdaaDoorLopen
import Derived.Test.YtlofjcicpkfcdaaDoorLawake
import Derived.Test.YtlofjcicpkfcdaaDoorLlaws
import Derived.Test.YtlofjcicpkfcdaaDoorLrev
namespace Go.Proofs.YtlofjcicpkfcdaaDoor
open Go.ChangeShapes Go.WideShapes Go.ChangeAt Go.RowKit Go.Deep Go.Shelf

def badC (c : Chg) : Bool := chgE c != 0
def negC (c : Chg) : Chg := ⟨-c.sg, c.q, c.bs⟩
def negP (e : Chg × Value) : Chg × Value := (negC e.1, e.2)
/-- the ledger after the first k changes -/
def stepS (l : List Ety) (cs : List Chg) (k : Nat) : List Ety := sumE [] (l ++ (cs.take k).map ety)
theorem chg_sg {c : Chg} (h : chgE c = 0) : c.sg = 1 ∨ c.sg = -1 := by
  unfold chgE at h
  split at h
  · exact absurd h (by decide)
  · omega
theorem negC_ok {c : Chg} (h : chgE c = 0) : chgE (negC c) = 0 := by
  have h1 := chg_sg h
  unfold chgE at h ⊢
  unfold negC
  simp only
  rw [if_neg (by omega)]
  rw [if_neg (by omega)] at h
  exact h
theorem cnt_negC (q : Int) (bs : List Bnd) (cs : List Chg) : cnt q bs ((cs.map negC).map ety) = - cnt q bs (cs.map ety) := by
  induction cs with
  | nil => rfl
  | cons c cs ih =>
    simp only [List.map_cons, cnt, ih, negC, ety]
    split <;> omega
structure CommutesOk (l : List Ety) (cs : List Chg) : Prop where
  all : applyR l cs = (stepS l cs cs.length, 0)
  turned : applyR l cs.reverse = (stepS l cs cs.length, 0)
  ok : ledErr (stepS l cs cs.length) = 0
  step : ∀ k c, cs[k]? = some c → applyR (stepS l cs k) [c] = (stepS l cs (k + 1), 0)
  back : applyR (stepS l cs cs.length) (cs.reverse.map negC) = (l, 0)
  start : stepS l cs 0 = l
theorem commutes_ok {l : List Ety} {cs : List Chg} (hl : Small l) (hn : cs.length ≤ 12) (hc : ∀ c ∈ cs, chgE c = 0) : CommutesOk l cs := by
  have fl := hl.few
  have sl := hl.sum
  have h1 := apply_ok (cs := cs) hl.ok hc (by omega) (by omega)
  have h2 := apply_ok (cs := cs.reverse) hl.ok (fun c h => hc c (List.mem_reverse.1 h)) (by simp; omega) (by omega)
  have he : stepS l cs cs.length = sumE [] (l ++ cs.map ety) := by unfold stepS; rw [List.take_length]
  have hk : ∀ k, ledErr (stepS l cs k) = 0 ∧ (stepS l cs k).length ≤ 24 ∧ sumA (stepS l cs k) ≤ 612 := fun k => by
    have hck : ∀ c ∈ cs.take k, chgE c = 0 := fun c h => hc c (List.mem_of_mem_take h)
    have hlk : (cs.take k).length ≤ 12 := by rw [List.length_take]; omega
    have h3 := apply_ok (cs := cs.take k) hl.ok hck (by omega) (by omega)
    have h4 := sumE_len [] (l ++ (cs.take k).map ety)
    have h5 := sumA_sum (l ++ (cs.take k).map ety)
    rw [sumA_app] at h5
    have h6 := sumA_ety hck
    simp only [List.length_append, List.length_map, List.length_nil] at h4
    refine ⟨h3.2, ?_, ?_⟩
    · unfold stepS; omega
    · unfold stepS; omega
  refine ⟨by rw [he]; exact h1.1, ?_, by rw [he]; exact h1.2, fun k c hkc => ?_, ?_, ?_⟩
  · rw [h2.1, he]
    rw [sum_eq (L := l ++ cs.reverse.map ety) (M := l ++ cs.map ety) fun q bs => by rw [cnt_app, cnt_app, cnt_perm ((List.reverse_perm cs).map ety)]]
  · have hcc : ∀ d ∈ [c], chgE d = 0 := fun d hd => by
      simp at hd; subst hd; exact hc _ (List.mem_of_getElem? hkc)
    obtain ⟨g1, g2, g3⟩ := hk k
    rw [(apply_ok (cs := [c]) g1 hcc (by simp; omega) (by omega)).1]
    unfold stepS
    rw [take_snoc' hkc, List.map_append]
    rw [sum_eq (L := sumE [] (l ++ (cs.take k).map ety) ++ [c].map ety) (M := l ++ ((cs.take k).map ety ++ [c].map ety)) fun q bs => by rw [cnt_app, sum0.2, ← cnt_app, List.append_assoc]]
  · obtain ⟨g1, g2, g3⟩ := hk cs.length
    have hcn : ∀ c ∈ cs.reverse.map negC, chgE c = 0 := fun c h => by
      obtain ⟨d, hd, rfl⟩ := List.mem_map.1 h
      exact negC_ok (hc d (List.mem_reverse.1 hd))
    rw [(apply_ok (cs := cs.reverse.map negC) g1 hcn (by simp; omega) (by omega)).1]
    rw [sum_is hl.led fun q bs => by
      rw [cnt_app, cnt_negC, he, sum0.2, cnt_app, cnt_perm ((List.reverse_perm cs).map ety)]; omega]
  · unfold stepS
    simp only [List.take_zero, List.map_nil, List.append_nil]
    exact sum_led hl.led
theorem leds_one {w : World} {b : Nat} {va : Value} {x : List Ety} (h0 : w.cell? ⟨b, 0, none⟩ = some va) (ha : IsEnts w va x) : IsLeds w (.slice (some ⟨b, 0, none⟩) 1 1) [x] :=
  ⟨_, 1, rfl, Nat.le_refl _, by decide, fun k u hk => ⟨b, 0, rfl, by
    match k, hk with
    | 0, hk => simp at hk; subst hk; exact ⟨va, ha, h0⟩
    | k + 1, hk => simp at hk⟩⟩
/-- the first k changes turned round -/
def turnK (ms : List (Chg × Value)) (k : Nat) : List (Chg × Value) := (ms.take k).map negP ++ ms.drop k
theorem turnK_len (ms : List (Chg × Value)) (k : Nat) : (turnK ms k).length = ms.length := by
  unfold turnK; rw [List.length_append, List.length_map, List.length_take, List.length_drop]; omega
theorem turnK_at {ms : List (Chg × Value)} {k : Nat} {e : Chg × Value} (h : ms[k]? = some e) : (turnK ms k)[k]? = some e := by
  have hk := (List.getElem?_eq_some_iff.1 h).1
  unfold turnK
  rw [List.getElem?_append_right (by simp; omega), List.getElem?_drop, ← h]
  congr 1
  simp; omega
theorem turnK_set {ms : List (Chg × Value)} {k : Nat} {e : Chg × Value} (h : ms[k]? = some e) : (turnK ms k).set k (negP e) = turnK ms (k + 1) := by
  have hk := (List.getElem?_eq_some_iff.1 h).1
  unfold turnK
  have hd : ms.drop k = e :: ms.drop (k + 1) := by
    rw [List.drop_eq_getElem_cons hk]
    rw [List.getElem?_eq_getElem hk] at h
    injection h with h
    rw [h]
  have hl : ((ms.take k).map negP).length = k := by simp; omega
  rw [hd, take_snoc' h, List.map_append, List.set_append_right _ _ (by omega), hl, Nat.sub_self, List.set_cons_zero, List.append_assoc]; rfl
theorem cellsC_set1 {l : List (Chg × Value)} {i : Nat} {e : Chg × Value} (hi : l[i]? = some e) (m : Int) : (cellsC l).set (i * 3) (.int .i64 m) = cellsC (l.set i (⟨m, e.1.q, e.1.bs⟩, e.2)) := by
  induction l generalizing i with
  | nil => simp at hi
  | cons y es ih =>
    cases i with
    | zero => simp at hi; subst hi; simp [cellsC]
    | succ i =>
      have := ih (i := i) (by simpa using hi)
      rw [show (i + 1) * 3 = i * 3 + 3 by omega]
      simp only [cellsC, List.set_cons_succ, this]
theorem turn_all (ms : List (Chg × Value)) : (turnK ms ms.length).map (·.1) = (ms.map (·.1)).map negC := by
  unfold turnK
  rw [List.take_length, List.drop_length, List.append_nil, List.map_map, List.map_map]; rfl

set_option maxHeartbeats 1000000 in
theorem badC_any (c : Chg) (v : Value) (w : World) (hl : IsBnds w v c.bs) : Calls Tryd.prog 17 #[.agg #[.int .i64 c.sg, .int .i64 c.q, v]] w fun e w' => e = .returned (.bool (badC c)) ∧ Below w.heap.size w w' := by
  have hc := fun W (hW : IsBnds W v c.bs) => rchg_any c v W hW
  unfold chgV at hc
  have HL := Lib.hid hl
  have HC := Lib.hid hc
  obtain ⟨A, cc, rfl, -⟩ := hl
  clear hc
  unfold badC
  go_enter Tryd.func17, Tryd.ntmps17
  go_wp2_with fail
  refine (HC.out _ (HL.out.stays bndAt_stays (by repeat (first | exact Below.refl _ _ | assumption | refine Below.drew ?_ | refine bel_al ?_ _ | refine bel_set ?_ (by omega) _ | refine bel_tr ?_ (by assumption))))).mono ?_
  rintro e w2 ⟨rfl, hb2⟩
  have hb := bel_tr (bel_one _ _) hb2
  go_wp2_with fail
  go_ret
  exact ⟨rfl, hb⟩
theorem enter_badC (args : Array Value) (W : World) : (callFunc 17 args).run Tryd.prog W = .ok (.enter 17 args) W := enters_of Tryd.func17 (by kernel_rfl) rfl args W
/-- what reads as a ledger still does so whatever is stored into the row u -/
def Safe (u : Value) (w : World) (v : Value) (l : List Ety) : Prop := ∀ W : World, w.grownBy W u.ownBlock → IsEnts W v l
theorem safe_old {u v : Value} {w wr : World} {l : List Ety} (h : IsEnts w v l) (hb : Below w.heap.size w wr) (hu : ∀ g, u.ownBlock = some g → w.heap.size ≤ g) : Safe u wr v l := fun W hW =>
  h.stays entAt_stays (hb.trans (grown_below hW hb.size hu))
theorem safe_new {B : Nat} {u v : Value} {w : World} {l : List Ety} (h : NewEnts B w v l) (hu : ∀ g, u.ownBlock = some g → g < B) : Safe u w v l := fun W hW =>
  (h.kept fun g h1 h2 => hW.block g h2 (fun e => by have := hu g e.symm; omega)).is
-- WALK
set_option maxRecDepth 100000 in
set_option maxHeartbeats 4000000 in
theorem commutes_walk (l : List Ety) (vl : Value) (cs : List Chg) (vc : Value) (w : World) (hl : IsEnts w vl l) (hc : IsChgs w vc cs) (htab : Tab w) :
    Calls Tryd.prog 4 #[vl, vc] w fun e w' => e = .returned (.bool true) ∧ Below w.heap.size w w' := by
  have HL := Lib.hid hl
  have HC := Lib.hid hc
  have HT := Lib.hid htab
  obtain ⟨A, ca, rfl, -⟩ := hl
  obtain ⟨B, cb, rfl, hc1, hc2, hcat⟩ := hc
  have hn := len_i64 hc1 hc2
  have HAT := Lib.hid hcat
  clear htab hcat hc1 hc2
  have hcon := fun W (hW : Below w.heap.size w W) => containsChgs_any 17 [] badC cs _ W (HC.out.stays chgAt_stays hW) enter_badC (fun W2 x u _ _ hu => badC_any x u W2 hu)
  have HCON := Lib.hid hcon
  clear hcon
  obtain ⟨t1, ht1⟩ : ∃ t, [l].any badL = t := ⟨_, rfl⟩
  obtain ⟨t2, ht2⟩ : ∃ t, fewC cs = t := ⟨_, rfl⟩
  obtain ⟨t3, ht3⟩ : ∃ t, cs.any badC = t := ⟨_, rfl⟩
  have HS1 := Lib.hid ht1
  have HS2 := Lib.hid ht2
  have HS3 := Lib.hid ht3
  clear ht1 ht2 ht3
  go_enter Tryd.func4, Tryd.ntmps4
  go_wp2_with fail
  refine calls_gen fun W1 e1 => ?_
  have y0 : W1.cell? ⟨w.heap.size, 0, none⟩ = some (.slice A l.length ca) := by rw [e1]; go_simp
  have hb1 : Below w.heap.size w W1 := by rw [e1]; exact (by repeat (first | exact Below.refl _ _ | assumption | refine Below.drew ?_ | refine bel_al ?_ _ | refine bel_set ?_ (by omega) _ | refine bel_tr ?_ (by assumption)))
  clear e1
  refine (small_any [l] _ W1 (leds_one y0 (HL.out.stays entAt_stays hb1))).mono ?_
  rw [HS1.out]
  rintro e w2 ⟨rfl, hb2⟩
  have HB2 := Lib.hid (bel_tr hb1 hb2)
  clear y0 hb1 hb2
  cases t1 with
  | true =>
    go_wp2_with fail
    refine (awake_any _ (HT.out.stays HB2.out)).mono ?_
    rintro e w3 ⟨rfl, hb3⟩
    go_wp2_with fail
    go_ret
    exact ⟨rfl, bel_tr HB2.out hb3⟩
  | false =>
  go_wp2_with fail
  refine (fewC_any cs _ w2 (HC.out.stays chgAt_stays HB2.out)).mono ?_
  rw [HS2.out]
  rintro e w3 ⟨rfl, hb3⟩
  have HB3 := Lib.hid (bel_tr HB2.out hb3)
  clear hb3
  cases t2 with
  | false =>
    go_wp2_with fail
    refine (awake_any _ (HT.out.stays HB3.out)).mono ?_
    rintro e w4 ⟨rfl, hb4⟩
    go_wp2_with fail
    go_ret
    exact ⟨rfl, bel_tr HB3.out hb4⟩
  | true =>
  go_wp2_with fail
  refine (HCON.out w3 HB3.out).mono ?_
  rw [HS3.out]
  rintro e w4 ⟨rfl, hb4⟩
  have HB4 := Lib.hid (bel_tr HB3.out hb4)
  clear hb4
  cases t3 with
  | true =>
    go_wp2_with fail
    refine (awake_any _ (HT.out.stays HB4.out)).mono ?_
    rintro e w5 ⟨rfl, hb5⟩
    go_wp2_with fail
    go_ret
    exact ⟨rfl, bel_tr HB4.out hb5⟩
  | false =>
  have hs1 := HS1.out
  simp only [List.any_cons, List.any_nil, Bool.or_false] at hs1
  have hn12 : cs.length ≤ 12 := by
    have := HS2.out
    unfold fewC at this
    rw [Bool.and_eq_true] at this
    have := of_decide_eq_true this.1
    omega
  have hcok : ∀ c ∈ cs, chgE c = 0 := fun c hc => by
    have := HS3.out
    rw [List.any_eq_false] at this
    have := this c hc
    unfold badC at this
    simpa using this
  have HM := Lib.hid (commutes_ok (small_of hs1) hn12 hcok)
  have HOK := Lib.hid hcok
  clear hs1 hcok
  go_wp2_with fail
  refine (apply_any l cs _ _ w4 (HL.out.stays entAt_stays HB4.out) (HC.out.stays chgAt_stays HB4.out) (HT.out.stays HB4.out)).mono ?_
  rw [HM.out.all]
  rintro e w5 ⟨v5, rfl, hv5, hb5⟩
  have H5 := Lib.hid hv5
  obtain ⟨A5, c5, rfl⟩ := sl_len hv5 rfl
  have HB5 := Lib.hid (bel_tr HB4.out hb5)
  clear hv5 hb5
  obtain ⟨ms, hms, hmb, hsrc⟩ := chgs_cells HC.out
  have HML : Hid (ms.length = cs.length) := Lib.hid (by rw [← hms, List.length_map])
  have HMS := Lib.hid hms
  have HMB := Lib.hid hmb
  have HSRC := Lib.hid (hsrc.stays HB5.out)
  clear hms hmb hsrc
  go_wp2_with fail
  refine (cloneChgs B cs.length cb (cellsC ms) w5 HSRC.out (by omega)).mono ?_
  rintro e w6 ⟨v6, rfl, hown6, hb6⟩
  have HB6 := Lib.hid (bel_tr HB5.out hb6)
  have HB56 := Lib.hid hb6
  obtain ⟨A6, c6, hv6⟩ := slice_own hown6
  subst hv6
  have HO6 : Hid (w6.ownsRow w5.heap.size 36 3 (.slice A6 cs.length c6) ms.length (cellsC ms)) := Lib.hid (by rw [HML.out]; exact hown6)
  have HW5 := Lib.hid HB5.out.size
  have HW6 := Lib.hid hb6.size
  clear hown6 hb6
  have hmu : ∀ e ∈ ms, ∃ A n c, e.2 = .slice A n c := fun e he => by obtain ⟨A, c, h, -⟩ := HMB.out e he; exact ⟨A, _, c, h⟩
  have HMU := Lib.hid hmu
  clear hmu
  go_wp2_with fail
  refine (reverse_row ms _ w5.heap.size w6 HO6.out HMU.out).mono ?_
  rintro e w7 ⟨rfl, hown7, hgr7⟩
  have hkeep : ∀ g, (Value.slice A6 cs.length c6).ownBlock = some g → w5.heap.size ≤ g := fun g h => (ownsRow_lt HO6.out h).1
  have hb7 : Below w5.heap.size w6 w7 := grown_below hgr7 HW6.out (fun g h => hkeep g h)
  have HB57 := Lib.hid (HB56.out.trans hb7)
  have HO7 := Lib.hid hown7
  have HB7 : Hid (Below w.heap.size w w7) := Lib.hid (HB6.out.trans (hb7.mono HW5.out))
  clear hb7 hown7 hgr7 hkeep
  have hrl : ms.reverse.length = ms.length := List.length_reverse
  have hmr : ms.reverse.map (·.1) = cs.reverse := by rw [List.map_reverse, HMS.out]
  have hC7 : IsChgs w7 (.slice A6 cs.length c6) cs.reverse := by
    rw [← hmr]
    exact rowC_is (by rw [hrl]; exact HO7.out) (fun e he => (HMB.out e (List.mem_reverse.1 he)).stays bndAt_stays HB7.out)
  have HC7 := Lib.hid hC7
  have HMR := Lib.hid hmr
  have HRL := Lib.hid hrl
  clear hC7 hmr hrl
  have H57 := Lib.hid (H5.out.stays entAt_stays HB57.out)
  go_wp2_with fail
  refine (apply_any l cs.reverse _ _ w7 (HL.out.stays entAt_stays HB7.out) HC7.out (HT.out.stays HB7.out)).mono ?_
  rw [HM.out.turned]
  rintro e w8 ⟨v8, rfl, hv8, hb8⟩
  have H8 := Lib.hid hv8
  have H58 := Lib.hid (H57.out.stays entAt_stays hb8)
  have HB58 := Lib.hid (bel_tr HB57.out hb8)
  have HO8 := Lib.hid (ownsRow_below HO7.out hb8)
  obtain ⟨A8, c8, rfl⟩ := sl_len hv8 rfl
  have HB8 := Lib.hid (bel_tr HB7.out hb8)
  have HW8 := Lib.hid hb8.size
  clear hv8 hb8
  go_wp2_with fail
  refine (lcheck_any (stepS l cs cs.length) _ w8 H58.out).mono ?_
  rw [HM.out.ok]
  rintro e w9 ⟨rfl, hb9⟩
  have H89 := Lib.hid (H8.out.stays entAt_stays hb9)
  have H59 := Lib.hid (H58.out.stays entAt_stays hb9)
  have HB59 := Lib.hid (bel_tr HB58.out hb9)
  have HO9 := Lib.hid (ownsRow_below HO8.out hb9)
  have HB9 := Lib.hid (bel_tr HB8.out hb9)
  have HW9 := Lib.hid hb9.size
  clear hb9
  go_wp2_with fail
  refine (rsame_any _ _ _ _ w9 H59.out H89.out).mono ?_
  rw [decide_eq_true rfl]
  rintro e w10 ⟨rfl, hb10⟩
  have H510 := Lib.hid (H59.out.stays entAt_stays hb10)
  have HB510 := Lib.hid (bel_tr HB59.out hb10)
  have HO10 := Lib.hid (ownsRow_below HO9.out hb10)
  have HB10 := Lib.hid (bel_tr HB9.out hb10)
  have HW10 := Lib.hid (Nat.le_trans HW9.out hb10.size)
  clear hb10
  go_wp2_with fail
  have hrow : ∀ g, (Value.slice A6 cs.length c6).ownBlock = some g → w5.heap.size ≤ g ∧ g < w10.heap.size := fun g h => ownsRow_lt HO10.out h
  have HROW := Lib.hid hrow
  have HS0 : Hid (Safe (.slice A6 cs.length c6) w10 (.slice A l.length ca) (stepS l cs 0)) := Lib.hid (by
    rw [HM.out.start]
    exact safe_old HL.out HB10.out fun g h => Nat.le_trans HW5.out (hrow g h).1)
  have HSA : Hid (Safe (.slice A6 cs.length c6) w10 (.slice A5 (stepS l cs cs.length).length c5) (stepS l cs cs.length)) := Lib.hid (by
    have h1 : Below w5.heap.size w5 w10 := HB510.out
    exact safe_old H5.out h1 fun g h => (hrow g h).1)
  have hst0 : l.length = (stepS l cs 0).length := by rw [HM.out.start]
  have HST0 := Lib.hid hst0
  clear hrow hst0
  go_loopw [10, 68] (fun sv i wr => ∃ (k : Nat) (A' : Option Addr) (c' : Nat), k ≤ cs.length ∧ i = .int .i64 k ∧ sv = .slice A' (stepS l cs k).length c' ∧ Hid (Safe (.slice A6 cs.length c6) wr sv (stepS l cs k) ∧ Below w10.heap.size w10 wr)) (fun _ i _ => cs.length - (intOf i).toNat)
  case atStart => exact ⟨0, A, ca, Nat.zero_le _, rfl, by rw [HST0.out], Lib.hid ⟨HS0.out, Below.refl _ _⟩⟩
  case round =>
    obtain ⟨k, A', c', hk, rfl, rfl, hI⟩ := hrel
    have hbr := hI.out.2
    by_cases hlt : k < cs.length
    · have hk' : (k : Int) < (cs.length : Int) := by omega
      obtain ⟨b1, o1, rfl, v', hv', x0, x1, x2⟩ := HAT.out k cs[k] (List.getElem?_eq_getElem hlt)
      have hbw := bel_tr HB10.out hbr
      replace x0 := cell_stays hbw x0
      replace x1 := cell_stays hbw x1
      replace x2 := cell_stays hbw x2
      have hget := Lib.hid (List.getElem?_eq_getElem hlt)
      obtain ⟨x, hx⟩ : ∃ x, x = cs[k] := ⟨_, rfl⟩
      rw [← hx] at hget x0 x1 hv'
      have HV := Lib.hid (hv'.stays bndAt_stays hbw)
      obtain ⟨A9, c9, rfl, -⟩ := hv'
      have hbl : b1 < wr.heap.size := World.block_lt_of_cell? wr ⟨b1, _, none⟩ x0
      have hnb : b1 ≠ wr.heap.size := by omega
      have hnb' : wr.heap.size ≠ b1 := by omega
      have HIE := Lib.hid (hI.out.1 wr (World.grownBy.refl wr _))
      clear hx
      go_wp2_with fail
      refine calls_gen fun W11 e11 => ?_
      have hb11 : Below wr.heap.size wr W11 := by rw [e11]; exact (by repeat (first | exact Below.refl _ _ | assumption | refine Below.drew ?_ | refine bel_al ?_ _ | refine bel_set ?_ (by omega) _ | refine bel_tr ?_ (by assumption)))
      have hC11 : IsChgs W11 (.slice (some ⟨wr.heap.size + 1, 0, none⟩) 1 1) [x] := sl_new (chg_mean HV.out) (bel_one _ _) e11 (by simp) rfl (by decide)
      have HW11 := Lib.hid (Nat.le_trans hbr.size hb11.size)
      have HBW := Lib.hid (bel_tr hbw hb11)
      have HBW10 := Lib.hid (bel_tr hbr hb11)
      clear e11 x0 x1 x2 hbl hnb hnb'
      refine (apply_new (stepS l cs k) [x] _ _ W11 (HIE.out.stays entAt_stays hb11) hC11 (HT.out.stays HBW.out)).mono ?_
      clear hC11 hb11
      rw [HM.out.step k x hget.out]
      rintro e w12 ⟨v12, rfl, hv12, hb12⟩
      have HN12 : Hid (Safe (.slice A6 cs.length c6) w12 v12 (stepS l cs (k + 1))) := Lib.hid (safe_new hv12 fun g h => Nat.lt_of_lt_of_le (HROW.out g h).2 HW11.out)
      obtain ⟨A12, c12, rfl⟩ := sl_len hv12 rfl
      have HB12 := Lib.hid (bel_tr HBW10.out hb12)
      clear hv12 hb12
      go_wp2_with fail
      go_roundw
      case rel => exact ⟨k + 1, A12, c12, by omega, by go_num, rfl, Lib.hid ⟨HN12.out, HB12.out⟩⟩
      case measure => simp [intOf]; omega
    · have hk' : ¬ (k : Int) < (cs.length : Int) := by omega
      have hke : k = cs.length := by omega
      subst hke
      have HSS := Lib.hid hI.out.1
      have HBA := Lib.hid hbr
      have hoa := ownsRow_below HO10.out hbr
      rw [HML.out] at hoa
      have HOA := Lib.hid hoa
      clear hoa
      have HSB : Hid (Safe (.slice A6 cs.length c6) wr (.slice A5 (stepS l cs cs.length).length c5) (stepS l cs cs.length)) := Lib.hid fun W hW => HSA.out W (grown_tr (below_grown hbr _) hW)
      clear hI hbr
      obtain ⟨wa, rfl⟩ : ∃ wa : World, wa = wr := ⟨_, rfl⟩
      go_wp2_with fail
      go_loopw [85] (fun i wq => ∃ k : Nat, k ≤ cs.length ∧ i = .int .i64 k ∧ Hid (wq.ownsRow w5.heap.size 36 3 (.slice A6 cs.length c6) cs.length (cellsC (turnK ms.reverse k)) ∧ wa.grownBy wq (Value.slice A6 cs.length c6).ownBlock)) (fun i _ => cs.length - (intOf i).toNat)
      case atStart => exact ⟨0, Nat.zero_le _, rfl, Lib.hid ⟨by unfold turnK; simpa using HOA.out, World.grownBy.refl wa _⟩⟩
      case round =>
        obtain ⟨k, hk, rfl, hI⟩ := hrel
        by_cases hlt : k < cs.length
        · have hk2 : (k : Int) < (cs.length : Int) := by omega
          have hml := HML.out
          have hgr : k < ms.reverse.length := by rw [List.length_reverse]; omega
          have hget := List.getElem?_eq_getElem hgr
          obtain ⟨e, he⟩ : ∃ e, e = ms.reverse[k] := ⟨_, rfl⟩
          rw [← he] at hget
          have hee : e ∈ ms := by rw [he]; exact List.mem_reverse.1 (List.getElem_mem hgr)
          have hcm : e.1 ∈ cs := by rw [← HMS.out]; exact List.mem_map.2 ⟨e, hee, rfl⟩
          have hsg := chg_sg (HOK.out e.1 hcm)
          have hat := turnK_at hget
          have hset := turnK_set hget
          have hcell := (cellsC_at hat).1
          have hc1 := cellsC_set1 hat (-e.1.sg)
          obtain ⟨m0, hm0⟩ : ∃ m : Int, -e.1.sg = m := ⟨_, rfl⟩
          have hset2 : (cellsC (turnK ms.reverse k)).set (k * 3) (.int .i64 m0) = cellsC (turnK ms.reverse (k + 1)) := by
            rw [← hset, ← hm0, hc1]; rfl
          have hlen3 : k * 3 < (cellsC (turnK ms.reverse k)).length := (List.getElem?_eq_some_iff.1 hcell).1
          rcases own_cur hI.out.1 with ⟨_, h0⟩ | ⟨g, cap, spare, hv, hbg, hh, hnc, hcm2, _, _⟩
          · omega
          injection hv with e1 _ e3
          subst e1 e3
          have z0 : wr.cell? ⟨g, k * 3, none⟩ = some (.int .i64 e.1.sg) := by rw [blk_cell hh, List.getElem?_append_left hlen3]; exact hcell
          have zf := blk_frozen hh (k * 3)
          have hw1 : IntKind.i64.wrap (-e.1.sg) = m0 := by rw [IntWalk.i64_in _ (by omega)]; exact hm0
          have HO := Lib.hid (own_set (v := .int .i64 m0) hI.out.1 hlen3)
          have HS2 := Lib.hid hset2
          have HG2 := Lib.hid (grown_tr hI.out.2 (set_grown wr g (k * 3) (.int .i64 m0)))
          obtain ⟨sg0, hsg0⟩ : ∃ s : Int, e.1.sg = s := ⟨_, rfl⟩
          rw [hsg0] at z0 hw1 hm0
          have hs0 : -2 ≤ sg0 ∧ sg0 ≤ 2 := by rw [← hsg0]; omega
          have hm00 := Lib.hid hm0
          clear hml hgr hget he hee hcm hat hset hcell hc1 hm0 hset2 hlen3 hh hI hsg hsg0
          go_wp2_with fail
          go_roundw
          case rel => exact ⟨k + 1, by omega, by go_num, Lib.hid ⟨by rw [← HS2.out]; exact HO.out, HG2.out⟩⟩
          case measure => simp [intOf]; omega
        · have hk2 : ¬ (k : Int) < (cs.length : Int) := by omega
          have hke : k = cs.length := by omega
          subst hke
          have HIO := Lib.hid hI.out
          clear hI
          have hbwa := HBA.out
          have hrw : ∀ g, (Value.slice A6 cs.length c6).ownBlock = some g → w.heap.size ≤ g := fun g h => Nat.le_trans HW5.out (HROW.out g h).1
          have HBQ := Lib.hid ((bel_tr HB10.out hbwa).trans (grown_below HIO.out.2 (bel_tr HB10.out hbwa).size hrw))
          have hall : (turnK ms.reverse cs.length).map (·.1) = cs.reverse.map negC := by
            have h1 := turn_all ms.reverse
            rw [HMR.out, HRL.out, HML.out] at h1
            exact h1
          have hCN : IsChgs wr (.slice A6 cs.length c6) (cs.reverse.map negC) := by
            rw [← hall]
            refine rowC_is (B := w5.heap.size) (by rw [turnK_len, HRL.out, HML.out]; exact HIO.out.1) fun e he => ?_
            have hb := HBQ.out
            unfold turnK at he
            rcases List.mem_append.1 he with he | he
            · obtain ⟨e0, h0, rfl⟩ := List.mem_map.1 he
              exact (HMB.out e0 (List.mem_reverse.1 (List.mem_of_mem_take h0))).stays bndAt_stays hb
            · exact (HMB.out e (List.mem_reverse.1 (List.mem_of_mem_drop he))).stays bndAt_stays hb
          have HCN := Lib.hid hCN
          have HAQ := Lib.hid (HSB.out wr HIO.out.2)
          have HSQ := Lib.hid (HSS.out wr HIO.out.2)
          clear hbwa hrw hall hCN
          go_wp2_with fail
          refine (apply_any (stepS l cs cs.length) (cs.reverse.map negC) _ _ wr HAQ.out HCN.out (HT.out.stays HBQ.out)).mono ?_
          rw [HM.out.back]
          rintro e w13 ⟨v13, rfl, hv13, hb13⟩
          have H13 := Lib.hid hv13
          obtain ⟨A13, c13, rfl⟩ := sl_len hv13 rfl
          have HA13 := Lib.hid (HAQ.out.stays entAt_stays hb13)
          have HS13 := Lib.hid (HSQ.out.stays entAt_stays hb13)
          have HB13 := Lib.hid (bel_tr HBQ.out hb13)
          clear hv13 hb13
          go_wp2_with fail
          refine (rsame_any _ _ _ _ w13 HS13.out HA13.out).mono ?_
          rw [decide_eq_true rfl]
          rintro e w14 ⟨rfl, hb14⟩
          have H14 := Lib.hid (H13.out.stays entAt_stays hb14)
          have HB14 := Lib.hid (bel_tr HB13.out hb14)
          clear hb14
          go_wp2_with fail
          refine (rsame_any _ _ _ _ w14 H14.out (HL.out.stays entAt_stays HB14.out)).mono ?_
          rw [decide_eq_true rfl]
          rintro e w15 ⟨rfl, hb15⟩
          have HB15 := Lib.hid (bel_tr HB14.out hb15)
          clear hb15
          go_wp2_with fail
          refine (awake_any _ (HT.out.stays HB15.out)).mono ?_
          rintro e w16 ⟨rfl, hb16⟩
          go_wp2_with fail
          go_ret
          exact ⟨rfl, bel_tr HB15.out hb16⟩

-- FRAME
set_option maxRecDepth 100000 in
theorem commutes_lifted (os : Os) (started : os.Started) (H : Type) (enc : TypeId × Value → H) :
    ReturnsInHanded {} Tryd.checked os 4 .any (fun w args => (Rows.ledgerCommutesSpec.pre enc Tryd.prog Tryd.f4 [] false w args ∧ laidMetH Tryd.prog theLaid w) ∧ sizedMet enc Tryd.prog Tryd.f4 (OpenSpec.ofChange Rows.ledgerCommutesSpec) false w args)
      (Rows.ledgerCommutesSpec.post enc Tryd.prog Tryd.f4 false true false false) := by
  refine returnsInHanded_of_change_and (C := Tryd.checked) (X := fun w _ => laidMetH Tryd.prog theLaid w) (fun _ _ _ hh h => h.of_heap hh) own_none started (by kernel_rfl) Tryd.func4
    (ChangeSpec.witness_shaped (enc := enc) (C := Tryd.checked) (os := os) (X := fun w _ => laidMetH Tryd.prog theLaid w) false (World.doorLaid Tryd.prog 400 os) #[.slice none 0 0, .slice none 0 0] 8 rfl (World.shaped_of_RefB (by kernel_rfl) (by kernel_rfl)) (by kernel_rfl) (by kernel_rfl) (by kernel_rfl) (door_met os _)) ?_
  intro W base args ds gs before hval0 hW _ _ hL _
  have htab := tab_of_laid hL
  have hval : ∀ (j : Nat) t v, Tryd.f4.params[j]? = some t → args[j]? = some v → Value.okWide Tryd.prog W .any base t v := hval0
  have hW' := hW
  obtain ⟨p, q, hA0, hV, rfl, hfz, hnd⟩ := hW
  have hA : DataW.TrodAll enc Tryd.prog W 0 (fun _ => true) true Tryd.f4.params.toList args.toList ds p := hA0
  rw [Tryd.params4] at hA hval
  obtain ⟨v0, vs0, d0, ds0, p0, q0, hargs, rfl, rfl, h0, r0⟩ := trodAll_cons hA
  obtain ⟨v1, vs1, d1, ds1, p1, q1, rfl, rfl, rfl, h1, r1⟩ := trodAll_cons r0
  obtain ⟨rfl, rfl, rfl⟩ := trodAll_nil r1
  obtain rfl : args = #[v0, v1] := by cases args; simp_all
  obtain ⟨rfl, rfl⟩ := trodVars_none hV
  have k0 := h0
  have lt0 : ∀ x ∈ p0, x.block < W.heap.size := by obtain ⟨m, hm⟩ := k0; exact DataW.trod_lt m _ _ _ hm
  obtain ⟨s0, len0, cap0, rfl⟩ := okWide_slice Tryd.underlying22 (hval 0 22 v0 rfl rfl)
  obtain ⟨l0, w0⟩ : ∃ l, IsEnts W (.slice s0 len0 cap0) l := by obtain ⟨fuel, hf⟩ := h0; exact read_ents (v := .slice s0 len0 cap0) hf
  have k1 := h1
  have lt1 : ∀ x ∈ p1, x.block < W.heap.size := by obtain ⟨m, hm⟩ := k1; exact DataW.trod_lt m _ _ _ hm
  obtain ⟨s1, len1, cap1, rfl⟩ := okWide_slice Tryd.underlying25 (hval 1 25 v1 rfl rfl)
  obtain ⟨l1, w1⟩ : ∃ l, IsChgs W (.slice s1 len1 cap1) l := by obtain ⟨fuel, hf⟩ := h1; exact read_chgs (v := .slice s1 len1 cap1) hf
  clear hA0 hval0
  refine (commutes_walk l0 _ l1 _ W w0 w1 htab).mono fun e W' ⟨he, bel⟩ => ?_
  subst he
  exact ⟨_, rfl, _, _, _, [], _, [], hW', trodAll_mk1 (shut_bool Tryd.underlying4 _), (trodAll_cons_mk (Below.trod laid_out (by kernel_rfl) (of_decide_eq_true (by kernel_rfl)) k0 bel lt0) (trodAll_cons_mk (Below.trod laid_out (by kernel_rfl) (of_decide_eq_true (by kernel_rfl)) k1 bel lt1) trodAll_mk0)), rfl, bel.frame _, fun h => by cases h⟩

theorem commutes_holds : Rows.LedgerCommutesSaid :=
  OpenClaim.holds_of_wide 4 Tryd.f4 rfl rfl rfl rfl rfl rfl rfl ⟨rfl, rfl, rfl, rfl, rfl⟩ rfl rfl rfl rfl rfl (by kernel_rfl) Tryd.func4 (by kernel_rfl)
    (of_decide_eq_true (by kernel_rfl)) (by unfold Func.isWrapper; first | (rw [if_pos (by decide +kernel)]; kernel_rfl) | (rw [if_neg (by decide +kernel)]; exact ⟨rfl, rfl⟩))
    (fun os started H enc _ => commutes_lifted os started H enc)

theorem commutes_card : Rows.LedgerCommutesCardSaid :=
  Claim7.holds_tied_plain_at .later [] [.data, .data, .data] true _ false
    commutes_holds (fun _ h => by cases h) (by kernel_rfl) (fun _ h => by cases h) ledgerCommutes_row_tie rfl ⟨rfl, rfl⟩ (by kernel_rfl) rfl
    (fun f fn hf hfn => by
      obtain rfl : f = 4 := Option.some.inj ((show Tryd.prog.funcNamed "tidegate/tidegatelaw41.LedgerCommutes" = some 4 by kernel_rfl).symm.trans hf) |>.symm
      obtain rfl : fn = Tryd.f4 := (Option.some.inj (Tryd.func4.symm.trans hfn)).symm
      exact ⟨by kernel_rfl, fun j t ht => by
        rw [Tryd.params4] at ht
        have hm : t ∈ [22, 25] := by simpa using Array.mem_of_getElem? ht
        have hall : ([22, 25].all fun u => !Tryd.prog.wantsStandIn u) = true := by kernel_rfl
        exact (show Tryd.prog.wantsStandIn t = false by simpa using List.all_eq_true.1 hall t hm)⟩)
    (by kernel_rfl)
#print axioms commutes_card
end Go.Proofs.YtlofjcicpkfcdaaDoor
