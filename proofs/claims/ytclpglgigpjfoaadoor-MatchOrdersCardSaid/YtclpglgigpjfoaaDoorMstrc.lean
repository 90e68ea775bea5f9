/- stream.Check. -/
import Derived.Test.YtclpglgigpjfoaaDoorMseen
import Derived.Test.YtclpglgigpjfoaaDoorLchk
namespace Go.Proofs.YtclpglgigpjfoaaDoor
open Go.RowKit

theorem getLast_take {α : Type} {l : List α} {k : Nat} (hk : k ≤ l.length) : (l.take k).getLast? = prevL l k := by
  cases k with
  | zero => rfl
  | succ k =>
    have hlt : k < l.length := by omega
    rw [take_snoc' (List.getElem?_eq_getElem hlt), List.getLast?_concat]
    exact (List.getElem?_eq_getElem hlt).symm
section
variable {l : List Evt} {k : Nat} {x : Evt} {E e : Int}
theorem str_stop (hx : l[k]? = some x) (h : strFrom (l.take k) (l.drop k) = E) (he : evE (l.take k) x = e) (h0 : e ≠ 0) : e = E := by
  obtain ⟨h1, rfl⟩ := List.getElem?_eq_some_iff.1 hx
  rw [List.drop_eq_getElem_cons h1, strFrom, if_neg (by rw [he]; exact h0), he] at h
  exact h
theorem str_go (hx : l[k]? = some x) (h : strFrom (l.take k) (l.drop k) = E) (he : evE (l.take k) x = 0) : strFrom (l.take (k + 1)) (l.drop (k + 1)) = E := by
  have hx' := hx
  obtain ⟨h1, rfl⟩ := List.getElem?_eq_some_iff.1 hx
  rw [List.drop_eq_getElem_cons h1, strFrom, if_pos he] at h
  rw [take_snoc' hx']
  exact h
theorem str_end (hk : l.length ≤ k) (h : strFrom (l.take k) (l.drop k) = E) : 0 = E := by
  rw [List.drop_eq_nil_of_le hk, strFrom] at h; exact h
theorem evE_2 {pre : List Evt} (h : placedE x = false) : evE pre x = 2 := if_pos h
theorem evE_14 {p : Evt} (h : placedE x = true) (hk : k ≤ l.length) (h0 : k ≠ 0) (hp : l[k - 1]? = some p) (hr : 0 ≤ refsC (eRef p) (eRef x)) : evE (l.take k) x = 14 := by
  unfold evE
  rw [if_neg (by simp [h]), if_pos]
  unfold lateE
  rw [getLast_take hk, prevL_pos h0 hp]
  simpa using hr
theorem late_not {p : Evt} (hk : k ≤ l.length) (h0 : k ≠ 0) (hp : l[k - 1]? = some p) (hr : refsC (eRef p) (eRef x) < 0) : lateE (l.take k) x = false := by
  unfold lateE
  rw [getLast_take hk, prevL_pos h0 hp]
  simpa using hr
theorem late_first (h0 : k = 0) : lateE (l.take k) x = false := by subst h0; rfl
theorem evE_7 {pre : List Evt} (h : placedE x = true) (hl : lateE pre x = false) (ha : pre.any (twinE x) = true) : evE pre x = 7 := by
  unfold evE; rw [if_neg (by simp [h]), if_neg (by simp [hl]), if_pos ha]
theorem evE_0 {pre : List Evt} (h : placedE x = true) (hl : lateE pre x = false) (ha : pre.any (twinE x) = false) : evE pre x = 0 := by
  unfold evE; rw [if_neg (by simp [h]), if_neg (by simp [hl]), if_neg (by simp [ha])]
end

set_option maxRecDepth 100000 in
set_option maxHeartbeats 2000000 in
theorem strchk_any (l : List Evt) (v : Value) (w : World) (hl : IsEvts w v l) :
    Calls Tryd.prog 27 #[v] w fun e w' => e = .returned (.int .i64 (strErr l)) ∧ Below w.heap.size w w' := by
  unfold strErr
  obtain ⟨A, c, rfl, h1, h2, hat⟩ := hl
  have hn := len_i64 h1 h2
  have HL := Lib.hid hat
  clear hat h1 h2
  by_cases hm : 4096 < l.length
  · rw [if_pos hm]
    have hm' : (4096 : Int) < (l.length : Int) := by omega
    go_enter Tryd.func27, Tryd.ntmps27
    go_wp2_with fail
    go_ret
    exact ⟨rfl, (by repeat (first | exact Below.refl _ _ | assumption | refine Below.drew ?_ | refine bel_al ?_ _ | refine bel_set ?_ (by omega) _ | refine bel_tr ?_ (by assumption)))⟩
  rw [if_neg hm]
  have hm' : ¬ (4096 : Int) < (l.length : Int) := by omega
  have hmm := @run_makeMap Tryd.prog
  have HM := Lib.hid hm
  clear hm
  go_enter Tryd.func27, Tryd.ntmps27
  go_wp2_with fail
  go_loopw [12] (fun i wr => ∃ k : Nat, k ≤ l.length ∧ i = .int .i64 k ∧ Hid (strFrom (l.take k) (l.drop k) = strFrom [] l ∧ Seen wr w.heap.size k (l.take k)) ∧ Below w.heap.size w wr ∧ w.heap.size < wr.heap.size) (fun i _ => l.length - (intOf i).toNat)
  case atStart => exact ⟨0, Nat.zero_le _, rfl, Lib.hid ⟨rfl, seen_made w⟩, (by repeat (first | exact Below.refl _ _ | assumption | refine Below.drew ?_ | refine bel_al ?_ _ | refine bel_set ?_ (by omega) _ | refine bel_tr ?_ (by assumption))), by simp⟩
  case round =>
    clear hmm
    obtain ⟨k, hk, rfl, hi, hb, hsz⟩ := hrel
    by_cases hlt : k < l.length
    · have hk' : (k : Int) < (l.length : Int) := by omega
      obtain ⟨b, o, rfl, vv, hvv, c0, c1, c2, c3, c4⟩ := HL.out k l[k] (List.getElem?_eq_getElem hlt)
      replace c0 := cell_stays hb c0
      replace c1 := cell_stays hb c1
      replace c2 := cell_stays hb c2
      replace c3 := cell_stays hb c3
      replace c4 := cell_stays hb c4
      obtain ⟨A1, cx, rfl, -⟩ := hvv
      have hbl : b < wr.heap.size := World.block_lt_of_cell? wr ⟨b, _, none⟩ c0
      have hnb : b ≠ wr.heap.size := by omega
      have hnb' : wr.heap.size ≠ b := by omega
      have hget := Lib.hid (List.getElem?_eq_getElem hlt)
      obtain ⟨x, hx⟩ : ∃ x, x = l[k] := ⟨_, rfl⟩
      rw [← hx] at hget c0 c1 c2 c3 c4
      clear hx
      have HPL : ∀ W, Calls Tryd.prog 43 #[.agg #[.int .i64 x.src, .int .i64 x.sq, .int .i64 x.ty, .int .i64 x.tm, .slice A1 x.vals.length cx]] W fun e w' => e = .returned (.bool (placedE x)) ∧ Gr W w' := fun W => evplaced_any x A1 _ cx W _ rfl
      by_cases hp : placedE x = false
      · have HP := Lib.hid hp
        rw [hp] at HPL
        have HPL := Lib.hid HPL
        clear hp
        go_wp2_with (go_at_call 43; refine (HPL.out _).mono ?_; rintro e w3 ⟨rfl, hg3⟩)
        go_ret
        exact ⟨ret_i (str_stop hget.out hi.out.1 (evE_2 HP.out) (by decide)), bel_tr hb (bel_tr (bel_one _ _) hg3.below)⟩
      rw [Bool.not_eq_false] at hp
      rw [hp] at HPL
      have HPL := Lib.hid HPL
      have HP := Lib.hid hp
      clear hp
      by_cases hk0 : k = 0
      · have HLT : Hid (lateE (l.take k) x = false) := Lib.hid (late_first hk0)
        have d1 : decide (0 < k) = false := by simp [hk0]
        have d2 : decide ((0 : Int) < (k : Int)) = false := by simp [hk0]
        clear hk0
        go_wp2_with fail
        refine calls_gen fun W9 e9 => ?_
        have y0 : W9.cell? ⟨wr.heap.size, 0, none⟩ = some (.int .i64 x.src) := by rw [e9]; go_simp
        have y1 : W9.cell? ⟨wr.heap.size, 1, none⟩ = some (.int .i64 x.sq) := by rw [e9]; go_simp
        have y2 : W9.cell? ⟨wr.heap.size, 2, none⟩ = some (.int .i64 x.ty) := by rw [e9]; go_simp
        have y3 : W9.cell? ⟨wr.heap.size, 3, none⟩ = some (.int .i64 x.tm) := by rw [e9]; go_simp
        have y4 : W9.cell? ⟨wr.heap.size, 4, none⟩ = some (.slice A1 x.vals.length cx) := by rw [e9]; go_simp
        have hb9 : Below wr.heap.size wr W9 := by rw [e9]; exact (by repeat (first | exact Below.refl _ _ | assumption | refine Below.drew ?_ | refine bel_al ?_ _ | refine bel_set ?_ (by omega) _ | refine bel_tr ?_ (by assumption)))
        have hs9 : wr.heap.size < W9.heap.size := by rw [e9]; simp
        clear e9
        refine (HPL.out _).mono ?_
        rintro e w4 ⟨rfl, hg4⟩
        replace hg4 := hg4.below
        have hb4 := bel_tr hb9 hg4
        have hs4 : wr.heap.size < w4.heap.size := Nat.lt_of_lt_of_le hs9 hg4.size
        replace y0 := cell_stays hg4 y0
        replace y1 := cell_stays hg4 y1
        replace y2 := cell_stays hg4 y2
        replace y3 := cell_stays hg4 y3
        replace y4 := cell_stays hg4 y4
        have HSN := Lib.hid (hi.out.2.below hb4)
        have HB4 := Lib.hid (bel_tr hb hb4)
        clear hb9 hs9 hg4 hb4 c0 c1 c2 c3 c4 hnb hnb' hbl
        go_wp2_with fail
        refine wp_region_F (fun W => W.cell? ⟨wr.heap.size, 0, none⟩ = some (.int .i64 x.src) ∧ W.cell? ⟨wr.heap.size, 1, none⟩ = some (.int .i64 x.sq) ∧ W.cell? ⟨wr.heap.size, 2, none⟩ = some (.int .i64 x.ty) ∧ W.cell? ⟨wr.heap.size, 3, none⟩ = some (.int .i64 x.tm) ∧ W.cell? ⟨wr.heap.size, 4, none⟩ = some (.slice A1 x.vals.length cx)) (by repeat (first | exact grows_cell _ _ _ | exact grows_true | refine grows_and ?_ ?_)) (by kernel_rfl) (by kernel_rfl) ?hF ?_; (case hF => (first | exact ⟨‹_›, ‹_›⟩ | (go_simp; done) | (simp [*]; done) | (repeat' (first | (refine And.intro ?_ ?_) | (go_simp; done) | exact cell_stays (bel_al (Below.refl _ _) _) (by assumption) | assumption)))); intro hne hxx; have hG : Hid (Grows (fun W => W.cell? ⟨wr.heap.size, 0, none⟩ = some (.int .i64 x.src) ∧ W.cell? ⟨wr.heap.size, 1, none⟩ = some (.int .i64 x.sq) ∧ W.cell? ⟨wr.heap.size, 2, none⟩ = some (.int .i64 x.ty) ∧ W.cell? ⟨wr.heap.size, 3, none⟩ = some (.int .i64 x.tm) ∧ W.cell? ⟨wr.heap.size, 4, none⟩ = some (.slice A1 x.vals.length cx))) := (by repeat (first | exact grows_cell _ _ _ | exact grows_true | refine grows_and ?_ ?_)); (repeat (go_big_quiet_step (fail))); clear hG hxx hne; refine wpQuiet_nil ?_; rintro wq ⟨⟨w', hb', hF'⟩, rfl⟩
        obtain ⟨z0, z1, z2, z3, z4⟩ := hF'
        have HSQ := Lib.hid (HSN.out.below hb')
        have HBQ := Lib.hid (bel_tr HB4.out hb')
        have hsq : wr.heap.size < wq.heap.size := Nat.lt_of_lt_of_le hs4 hb'.size
        clear hb' y0 y1 y2 y3 y4
        by_cases htw : (l.take k).any (twinE x) = true
        · have HTW := Lib.hid htw
          clear htw
          go_wp2_with (first | (go_at_call 45; refine (evOf_raw _ _ _ _ _ _ _ _).mono ?_; rintro e w6 ⟨rfl, hg6⟩) | (at_lookup; refine wpList_lookup_seen _ rfl _ _ rfl w.heap.size k (l.take k) x rfl (HSQ.out.below hg6.below) rfl HP.out ?_; rw [HTW.out]))
          go_ret
          exact ⟨ret_i (str_stop hget.out hi.out.1 (evE_7 HP.out HLT.out HTW.out) (by decide)), bel_tr HBQ.out hg6.below⟩
        · rw [Bool.not_eq_true] at htw
          have HTW := Lib.hid htw
          clear htw
          go_wp2_with (first | (go_at_call 45; refine (evOf_raw _ _ _ _ _ _ _ _).mono ?_; rintro e w6 ⟨rfl, hg6⟩) | (at_lookup; refine wpList_lookup_seen _ rfl _ _ rfl w.heap.size k (l.take k) x rfl (HSQ.out.below hg6.below) rfl HP.out ?_; rw [HTW.out]; have HSR := Lib.hid (HSQ.out.below hg6.below); have HBR := Lib.hid (bel_tr HBQ.out hg6.below); replace z0 := cell_stays hg6.below z0; replace z1 := cell_stays hg6.below z1; replace z2 := cell_stays hg6.below z2; replace z3 := cell_stays hg6.below z3; replace z4 := cell_stays hg6.below z4; have hsr := Nat.lt_of_lt_of_le hsq hg6.below.size; clear hg6) | (at_mapUpdate; refine wpList_store_seen _ rfl _ _ _ rfl w.heap.size k (l.take k) x rfl (HSR.out.below hg6.below) rfl rfl HP.out (by unfold maxLen; omega) ?_; intro w7 hs7 hg7))
          go_roundw
          case rel =>
            refine ⟨k + 1, by omega, by go_num, Lib.hid ⟨str_go hget.out hi.out.1 (evE_0 HP.out HLT.out HTW.out), by rw [take_snoc' hget.out]; exact hs7⟩, ?_, ?_⟩
            · exact (bel_tr HBR.out hg6.below).trans (grown_below hg7 (bel_tr HBR.out hg6.below).size (fun g hg => by injection hg with hg; omega))
            · have := hg7.size; have := hg6.below.size; omega
          case measure => simp [intOf]; omega
      · have hk1 : (0 : Int) ≤ (k : Int) - 1 := by omega
        have hk2 : (k : Int) - 1 < (l.length : Int) := by omega
        have d1 : decide (0 < k) = true := by simp; omega
        have d2 : decide ((0 : Int) < (k : Int)) = true := by simp; omega
        have HK := Lib.hid hk0
        clear hk0
        obtain ⟨_, _, hbo, vp, hvp, p0, p1, p2, p3, p4⟩ := HL.out (k - 1) l[k - 1] (List.getElem?_eq_getElem (by omega))
        simp only [Option.some.injEq, Addr.mk.injEq, and_true] at hbo
        obtain ⟨rfl, rfl⟩ := hbo
        obtain ⟨A2, cp, rfl, -⟩ := hvp
        have hgetp := Lib.hid (List.getElem?_eq_getElem (l := l) (i := k - 1) (by omega))
        obtain ⟨p, hp⟩ : ∃ p, p = l[k - 1] := ⟨_, rfl⟩
        rw [← hp] at p0 p1 p2 p3 p4 hgetp
        clear hp
        obtain ⟨r, hr⟩ : ∃ r, refsC (eRef p) (eRef x) = r := ⟨_, rfl⟩
        have HR := Lib.hid hr
        have HRR : Hid (∀ W, Calls Tryd.prog 44 #[.agg #[.int .i64 p.src, .int .i64 p.sq, .int .i64 p.ty, .int .i64 p.tm, .slice A2 p.vals.length cp], .agg #[.int .i64 x.src, .int .i64 x.sq, .int .i64 x.ty, .int .i64 x.tm, .slice A1 x.vals.length cx]] W fun e w' => e = .returned (.int .i64 r) ∧ Below W.heap.size W w') := Lib.hid fun W => (evcmp_any p x A2 A1 _ cp _ cx W).mono (fun e w' ⟨h1, h2⟩ => ⟨h1.trans (by rw [hr]), h2.below⟩)
        clear hr
        go_wp2_with fail
        refine calls_gen fun W9 e9 => ?_
        have y0 : W9.cell? ⟨wr.heap.size, 0, none⟩ = some (.int .i64 x.src) := by rw [e9]; go_simp
        have y1 : W9.cell? ⟨wr.heap.size, 1, none⟩ = some (.int .i64 x.sq) := by rw [e9]; go_simp
        have y2 : W9.cell? ⟨wr.heap.size, 2, none⟩ = some (.int .i64 x.ty) := by rw [e9]; go_simp
        have y3 : W9.cell? ⟨wr.heap.size, 3, none⟩ = some (.int .i64 x.tm) := by rw [e9]; go_simp
        have y4 : W9.cell? ⟨wr.heap.size, 4, none⟩ = some (.slice A1 x.vals.length cx) := by rw [e9]; go_simp
        have hb9 : Below wr.heap.size wr W9 := by rw [e9]; exact (by repeat (first | exact Below.refl _ _ | assumption | refine Below.drew ?_ | refine bel_al ?_ _ | refine bel_set ?_ (by omega) _ | refine bel_tr ?_ (by assumption)))
        have hs9 : wr.heap.size < W9.heap.size := by rw [e9]; simp
        clear e9
        refine (HPL.out _).mono ?_
        rintro e w4 ⟨rfl, hg4⟩
        replace hg4 := hg4.below
        have hb4 := bel_tr hb9 hg4
        have hs4 : wr.heap.size < w4.heap.size := Nat.lt_of_lt_of_le hs9 hg4.size
        replace y0 := cell_stays hg4 y0
        replace y1 := cell_stays hg4 y1
        replace y2 := cell_stays hg4 y2
        replace y3 := cell_stays hg4 y3
        replace y4 := cell_stays hg4 y4
        have HSN := Lib.hid (hi.out.2.below hb4)
        have HB4 := Lib.hid (bel_tr hb hb4)
        clear hb9 hs9 hg4 hb4 c0 c1 c2 c3 c4 hnb hnb' hbl
        replace p0 := cell_stays HB4.out p0
        replace p1 := cell_stays HB4.out p1
        replace p2 := cell_stays HB4.out p2
        replace p3 := cell_stays HB4.out p3
        replace p4 := cell_stays HB4.out p4
        go_wp2_with fail
        refine wp_region_F (fun W => W.cell? ⟨wr.heap.size, 0, none⟩ = some (.int .i64 x.src) ∧ W.cell? ⟨wr.heap.size, 1, none⟩ = some (.int .i64 x.sq) ∧ W.cell? ⟨wr.heap.size, 2, none⟩ = some (.int .i64 x.ty) ∧ W.cell? ⟨wr.heap.size, 3, none⟩ = some (.int .i64 x.tm) ∧ W.cell? ⟨wr.heap.size, 4, none⟩ = some (.slice A1 x.vals.length cx) ∧ W.cell? ⟨b, o + (k - 1) * 5, none⟩ = some (.int .i64 p.src) ∧ W.cell? ⟨b, o + (k - 1) * 5 + 1, none⟩ = some (.int .i64 p.sq) ∧ W.cell? ⟨b, o + (k - 1) * 5 + 2, none⟩ = some (.int .i64 p.ty) ∧ W.cell? ⟨b, o + (k - 1) * 5 + 3, none⟩ = some (.int .i64 p.tm) ∧ W.cell? ⟨b, o + (k - 1) * 5 + 4, none⟩ = some (.slice A2 p.vals.length cp)) (by repeat (first | exact grows_cell _ _ _ | exact grows_true | refine grows_and ?_ ?_)) (by kernel_rfl) (by kernel_rfl) ?hF ?_; (case hF => (first | exact ⟨‹_›, ‹_›⟩ | (go_simp; done) | (simp [*]; done) | (repeat' (first | (refine And.intro ?_ ?_) | (go_simp; done) | exact cell_stays (bel_al (Below.refl _ _) _) (by assumption) | assumption)))); intro hne hxx; have hG : Hid (Grows (fun W => W.cell? ⟨wr.heap.size, 0, none⟩ = some (.int .i64 x.src) ∧ W.cell? ⟨wr.heap.size, 1, none⟩ = some (.int .i64 x.sq) ∧ W.cell? ⟨wr.heap.size, 2, none⟩ = some (.int .i64 x.ty) ∧ W.cell? ⟨wr.heap.size, 3, none⟩ = some (.int .i64 x.tm) ∧ W.cell? ⟨wr.heap.size, 4, none⟩ = some (.slice A1 x.vals.length cx) ∧ W.cell? ⟨b, o + (k - 1) * 5, none⟩ = some (.int .i64 p.src) ∧ W.cell? ⟨b, o + (k - 1) * 5 + 1, none⟩ = some (.int .i64 p.sq) ∧ W.cell? ⟨b, o + (k - 1) * 5 + 2, none⟩ = some (.int .i64 p.ty) ∧ W.cell? ⟨b, o + (k - 1) * 5 + 3, none⟩ = some (.int .i64 p.tm) ∧ W.cell? ⟨b, o + (k - 1) * 5 + 4, none⟩ = some (.slice A2 p.vals.length cp))) := (by repeat (first | exact grows_cell _ _ _ | exact grows_true | refine grows_and ?_ ?_)); (repeat (go_big_quiet_step ((go_at_call 44; exact cls_call hG (HRR.out _))))); clear hG hxx hne; refine wpQuiet_nil ?_; rintro wq ⟨⟨w', hb', hF'⟩, rfl⟩
        by_cases hr0 : 0 ≤ r
        · have d3 : decide (0 ≤ r) = true := by simpa using hr0
          go_wp2_with fail
          go_ret
          exact ⟨ret_i (str_stop hget.out hi.out.1 (evE_14 HP.out hk HK.out hgetp.out (by rw [HR.out]; exact hr0)) (by decide)), bel_tr HB4.out hb'⟩
        · have d3 : decide (0 ≤ r) = false := by simpa using hr0
          have HLT : Hid (lateE (l.take k) x = false) := Lib.hid (late_not hk HK.out hgetp.out (by rw [HR.out]; omega))
          clear p0 p1 p2 p3 p4
          obtain ⟨z0, z1, z2, z3, z4, -⟩ := hF'
          have HSQ := Lib.hid (HSN.out.below hb')
          have HBQ := Lib.hid (bel_tr HB4.out hb')
          have hsq : wr.heap.size < wq.heap.size := Nat.lt_of_lt_of_le hs4 hb'.size
          clear hb' y0 y1 y2 y3 y4
          by_cases htw : (l.take k).any (twinE x) = true
          · have HTW := Lib.hid htw
            clear htw
            go_wp2_with (first | (go_at_call 45; refine (evOf_raw _ _ _ _ _ _ _ _).mono ?_; rintro e w6 ⟨rfl, hg6⟩) | (at_lookup; refine wpList_lookup_seen _ rfl _ _ rfl w.heap.size k (l.take k) x rfl (HSQ.out.below hg6.below) rfl HP.out ?_; rw [HTW.out]))
            go_ret
            exact ⟨ret_i (str_stop hget.out hi.out.1 (evE_7 HP.out HLT.out HTW.out) (by decide)), bel_tr HBQ.out hg6.below⟩
          · rw [Bool.not_eq_true] at htw
            have HTW := Lib.hid htw
            clear htw
            go_wp2_with (first | (go_at_call 45; refine (evOf_raw _ _ _ _ _ _ _ _).mono ?_; rintro e w6 ⟨rfl, hg6⟩) | (at_lookup; refine wpList_lookup_seen _ rfl _ _ rfl w.heap.size k (l.take k) x rfl (HSQ.out.below hg6.below) rfl HP.out ?_; rw [HTW.out]; have HSR := Lib.hid (HSQ.out.below hg6.below); have HBR := Lib.hid (bel_tr HBQ.out hg6.below); replace z0 := cell_stays hg6.below z0; replace z1 := cell_stays hg6.below z1; replace z2 := cell_stays hg6.below z2; replace z3 := cell_stays hg6.below z3; replace z4 := cell_stays hg6.below z4; have hsr := Nat.lt_of_lt_of_le hsq hg6.below.size; clear hg6) | (at_mapUpdate; refine wpList_store_seen _ rfl _ _ _ rfl w.heap.size k (l.take k) x rfl (HSR.out.below hg6.below) rfl rfl HP.out (by unfold maxLen; omega) ?_; intro w7 hs7 hg7))
            go_roundw
            case rel =>
              refine ⟨k + 1, by omega, by go_num, Lib.hid ⟨str_go hget.out hi.out.1 (evE_0 HP.out HLT.out HTW.out), by rw [take_snoc' hget.out]; exact hs7⟩, ?_, ?_⟩
              · exact (bel_tr HBR.out hg6.below).trans (grown_below hg7 (bel_tr HBR.out hg6.below).size (fun g hg => by injection hg with hg; omega))
              · have := hg7.size; have := hg6.below.size; omega
            case measure => simp [intOf]; omega
    · have hk' : ¬ (k : Int) < (l.length : Int) := by omega
      go_wp2_with fail
      go_ret
      exact ⟨ret_i (str_end (by omega) hi.out.1), hb⟩
end Go.Proofs.YtclpglgigpjfoaaDoor
