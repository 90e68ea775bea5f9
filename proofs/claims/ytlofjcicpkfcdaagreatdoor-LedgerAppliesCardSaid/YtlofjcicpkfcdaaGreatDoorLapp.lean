/- ledger.Apply. -/
import Derived.Test.YtlofjcicpkfcdaaGreatDoorLfun
namespace Go.Proofs.YtlofjcicpkfcdaaGreatDoor
open Go.RowKit

def ety (c : Chg) : Ety := ⟨c.q, c.bs, c.sg⟩
def chgsE (cs : List Chg) : Int := scanE (fun _ c => chgE c) none cs
def applyR (l : List Ety) (cs : List Chg) : List Ety × Int := if ledErr l ≠ 0 then ([], ledErr l) else if 4096 < cs.length then ([], 5) else if chgsE cs ≠ 0 then ([], chgsE cs) else limR (sumE [] (l ++ cs.map ety))
theorem ent_one_mean {w : World} {q n : Int} {v : Value} {bs : List Bnd} (hv : IsBnds w v bs) : Means EntAt 3 w [.int .i64 q, v, .int .i64 n] [⟨q, bs, n⟩] := by
  refine ⟨rfl, by simp [Value.oneCell']; exact sl_oneCell hv, fun W b o hb hc k x hk => ?_⟩
  cases k with
  | zero => simp at hk; subst hk; exact ⟨v, hv.stays bndAt_stays hb, by simpa using hc 0 _ rfl, by simpa using hc 1 _ rfl, by simpa using hc 2 _ rfl⟩
  | succ k => simp at hk
theorem chgE_fit {c : Chg} (h : chgE c = 0) : FitE (ety c) := by
  unfold chgE at h
  by_cases h1 : c.sg ≠ 1 ∧ c.sg ≠ -1
  · rw [if_pos h1] at h; exact absurd h (by decide)
  · rw [if_neg h1] at h
    refine ⟨h, ?_⟩
    unfold ety
    simp only
    omega
theorem chgs_fit {cs : List Chg} {p : Option Chg} (h : scanE (fun _ c => chgE c) p cs = 0) : ∀ c ∈ cs, chgE c = 0 := by
  induction cs generalizing p with
  | nil => simp
  | cons x l ih =>
    simp only [scanE] at h
    by_cases h0 : chgE x = 0
    · rw [if_pos h0] at h
      intro c hc
      rcases List.mem_cons.1 hc with rfl | hc
      · exact h0
      · exact ih h c hc
    · rw [if_neg h0] at h; exact absurd h h0

set_option maxRecDepth 100000 in
set_option maxHeartbeats 2000000 in
theorem apply_new (l : List Ety) (cs : List Chg) (va vc : Value) (w : World) (ha : IsEnts w va l) (hc : IsChgs w vc cs) (htab : Tab w) : Calls Tryz.prog 7 #[va, vc] w (LedRetN w.heap.size w (applyR l cs)) := by
  have HA := Lib.hid ha
  have HT := Lib.hid htab
  obtain ⟨A, c, rfl, -⟩ := ha
  obtain ⟨B, d, rfl, h1, h2, hat⟩ := hc
  have hn := len_i64 h1 h2
  have HC := Lib.hid hat
  obtain ⟨j0, hj0, hy0, hy1, hy2⟩ := info_parts info_ent
  unfold applyR
  obtain ⟨e1, he1⟩ : ∃ e, ledErr l = e := ⟨_, rfl⟩
  have HE1 := Lib.hid he1
  rw [he1]
  clear he1 htab hat h1 h2
  by_cases h0 : e1 = 0
  case neg =>
    rw [if_pos h0]
    have h0' : (e1 != 0) = true := by simpa using h0
    go_enter Tryz.func7, Tryz.ntmps7
    go_wp2_with fail
    refine (lcheck_any l _ w HA.out).mono ?_
    rw [HE1.out]
    rintro e w2 ⟨rfl, hb2⟩
    go_wp2_with fail
    go_ret2
    exact ⟨_, rfl, Sl.nil _ _ _ _ _ (Nat.zero_le _), hb2⟩
  subst h0
  rw [if_neg (by simp)]
  by_cases hm : 4096 < cs.length
  · rw [if_pos hm]
    have hm' : (4096 : Int) < (cs.length : Int) := by omega
    go_enter Tryz.func7, Tryz.ntmps7
    go_wp2_with fail
    refine (lcheck_any l _ w HA.out).mono ?_
    rw [HE1.out]
    rintro e w2 ⟨rfl, hb2⟩
    go_wp2_with fail
    go_ret2
    exact ⟨_, rfl, Sl.nil _ _ _ _ _ (Nat.zero_le _), hb2⟩
  rw [if_neg hm]
  have hm' : ¬ (4096 : Int) < (cs.length : Int) := by omega
  obtain ⟨R, hR⟩ : ∃ R, (if chgsE cs ≠ 0 then ([], chgsE cs) else limR (sumE [] (l ++ cs.map ety))) = R := ⟨_, rfl⟩
  have HR := Lib.hid hR
  rw [hR]
  clear hR
  go_enter Tryz.func7, Tryz.ntmps7
  go_wp2_with fail
  refine (lcheck_any l _ w HA.out).mono ?_
  rw [HE1.out]
  rintro e w2 ⟨rfl, hb2⟩
  go_wp2_with fail
  go_loopw [7, 21] (fun av i wr => ∃ (k : Nat) (xs : List Value), k ≤ cs.length ∧ i = .int .i64 k ∧ Hid (scanE (fun _ c => chgE c) (prevL cs k) (cs.drop k) = chgsE cs ∧ (∀ c ∈ cs.take k, chgE c = 0) ∧ wr.ownsRow w.heap.size 45 3 av k xs ∧ Means EntAt 3 w xs ((cs.take k).map ety) ∧ Below w.heap.size w wr)) (fun _ i _ => cs.length - (intOf i).toNat)
  case atStart => exact ⟨0, [], Nat.zero_le _, rfl, Lib.hid ⟨rfl, by simp, ⟨by simp, .inl ⟨rfl, rfl⟩⟩, Means.nil, hb2⟩⟩
  case round =>
    obtain ⟨k, xs, hk, rfl, hI⟩ := hrel
    have hbr := hI.out.2.2.2.2
    by_cases hlt : k < cs.length
    · have hk' : (k : Int) < (cs.length : Int) := by omega
      obtain ⟨b, o, rfl, v', hv', c0, c1, c2⟩ := HC.out k cs[k] (List.getElem?_eq_getElem hlt)
      replace c0 := cell_stays hbr c0
      replace c1 := cell_stays hbr c1
      replace c2 := cell_stays hbr c2
      have hget := Lib.hid (List.getElem?_eq_getElem hlt)
      obtain ⟨x, hx⟩ : ∃ x, x = cs[k] := ⟨_, rfl⟩
      rw [← hx] at hget c0 c1 hv'
      have HV := Lib.hid hv'
      obtain ⟨A', c', rfl, -⟩ := hv'
      have hbl : b < wr.heap.size := World.block_lt_of_cell? wr ⟨b, _, none⟩ c0
      have hnb : b ≠ wr.heap.size := by omega
      have hnb' : wr.heap.size ≠ b := by omega
      clear hx
      by_cases hsg : x.sg ≠ 1 ∧ x.sg ≠ -1
      · have g1 : (x.sg != 1) = true := by simpa using hsg.1
        have g2 : (x.sg != -1) = true := by simpa using hsg.2
        have HX : Hid (R = ([], 1)) := Lib.hid (by
          have h5 : chgsE cs = 1 := (scan_stop hget.out hI.out.1 (e := 1) (by unfold chgE; rw [if_pos hsg]) (by decide)).symm
          rw [← HR.out, h5, if_pos (by decide)])
        clear hsg
        go_wp2_with fail
        go_ret2
        rw [HX.out]
        exact ⟨_, rfl, Sl.nil _ _ _ _ _ (Nat.zero_le _), bel_tr hbr (by repeat (first | exact Below.refl _ _ | assumption | refine Below.drew ?_ | refine bel_al ?_ _ | refine bel_set ?_ (by omega) _ | refine bel_tr ?_ (by assumption)))⟩
      obtain ⟨es, hes⟩ : ∃ e, subjE x.q x.bs = e := ⟨_, rfl⟩
      have HES := Lib.hid hes
      have HCE : Hid (chgE x = es) := Lib.hid (by unfold chgE; rw [if_neg hsg]; exact hes)
      have hcase : x.sg = 1 ∨ x.sg = -1 := by omega
      clear hes hsg
      have HSUB := Lib.hid (fun W (hW : Below wr.heap.size wr W) => subject_any x.q x.bs _ W (HV.out.stays bndAt_stays (bel_tr hbr hW)))
      rw [HES.out] at HSUB
      unfold matV at HSUB
      rcases hcase with hs | hs
      · have g1 : (x.sg != 1) = false := by simp [hs]
        clear hs
        by_cases h0 : es = 0
        · subst h0
          go_wp2_with (first | (go_at_call 21; refine calls_gen fun W9 e9 => ?_; have y0 : W9.cell? ⟨wr.heap.size, 0, none⟩ = some (.int .i64 x.sg) := (by rw [e9]; go_simp); have y1 : W9.cell? ⟨wr.heap.size, 1, none⟩ = some (.int .i64 x.q) := (by rw [e9]; go_simp); have y2 : W9.cell? ⟨wr.heap.size, 2, none⟩ = some (.slice A' x.bs.length c') := (by rw [e9]; go_simp); have hb9 : Below wr.heap.size wr W9 := (by rw [e9]; exact (by repeat (first | exact Below.refl _ _ | assumption | refine Below.drew ?_ | refine bel_al ?_ _ | refine bel_set ?_ (by omega) _ | refine bel_tr ?_ (by assumption)))); clear e9; refine (HSUB.out W9 hb9).mono ?_; rintro e w4 ⟨rfl, hg4⟩; have hb4 := bel_tr hb9 hg4; replace y0 := cell_stays hg4 y0; replace y1 := cell_stays hg4 y1; replace y2 := cell_stays hg4 y2) | (at_builtin; refine wpList_app _ rfl (.tmp 41) (.tmp 49) 22 rfl w.heap.size 45 j0 _ 3 40 Tryz.underlying22 hj0 hy0 hy1 hy2 rfl (by decide) u7 k xs rfl (ownsRow_below (ownsRow_below hI.out.2.2.1 hb4) (bel_one _ _)) (some ⟨w4.heap.size, 0, none⟩) 1 1 [.int .i64 x.q, .slice A' x.bs.length c', .int .i64 x.sg] rfl (src_new w4 [.int .i64 x.q, .slice A' x.bs.length c', .int .i64 x.sg] _ 1 3 rfl (by simp [Value.oneCell'])) (by unfold maxLen; omega) (by omega) (by have h1 := hbr.size; have h2 := hb4.size; simp; omega) ?_; intro v7 w7 hown7 hg7 hloc7))
          have hrow4 := ownsRow_below hI.out.2.2.1 hb4
          have hb7 : Below w.heap.size w w7 := (bel_al (bel_tr hbr hb4) _).trans (grown_below hg7 (by have := hbr.size; have := hb4.size; simp; omega) (fun g h => (ownsRow_lt hrow4 h).1))
          have HO7 := Lib.hid hown7
          clear hown7 hg7 hloc7 hrow4
          go_wp2_with fail
          go_roundw
          case rel =>
            refine ⟨k + 1, xs ++ [.int .i64 x.q, .slice A' x.bs.length c', .int .i64 x.sg], by omega, by go_num, Lib.hid ⟨scan_go hget.out hI.out.1 HCE.out, ?_, HO7.out, ?_, hb7⟩⟩
            · rw [take_snoc' hget.out]
              intro y hy
              rcases List.mem_append.1 hy with hy | hy
              · exact hI.out.2.1 y hy
              · simp at hy; subst hy; exact HCE.out
            · rw [take_snoc' hget.out, List.map_append]
              exact hI.out.2.2.2.1.app (ent_one_mean HV.out)
          case measure => simp [intOf]; omega
        · have h0' : (es != 0) = true := by simpa using h0
          have HX : Hid (R = ([], es)) := Lib.hid (by
            have h5 : chgsE cs = es := (scan_stop hget.out hI.out.1 HCE.out h0).symm
            rw [← HR.out, h5, if_pos h0])
          clear h0
          go_wp2_with (go_at_call 21; refine calls_gen fun W9 e9 => ?_; have y0 : W9.cell? ⟨wr.heap.size, 0, none⟩ = some (.int .i64 x.sg) := (by rw [e9]; go_simp); have y1 : W9.cell? ⟨wr.heap.size, 1, none⟩ = some (.int .i64 x.q) := (by rw [e9]; go_simp); have y2 : W9.cell? ⟨wr.heap.size, 2, none⟩ = some (.slice A' x.bs.length c') := (by rw [e9]; go_simp); have hb9 : Below wr.heap.size wr W9 := (by rw [e9]; exact (by repeat (first | exact Below.refl _ _ | assumption | refine Below.drew ?_ | refine bel_al ?_ _ | refine bel_set ?_ (by omega) _ | refine bel_tr ?_ (by assumption)))); clear e9; refine (HSUB.out W9 hb9).mono ?_; rintro e w4 ⟨rfl, hg4⟩; have hb4 := bel_tr hb9 hg4; replace y0 := cell_stays hg4 y0; replace y1 := cell_stays hg4 y1; replace y2 := cell_stays hg4 y2)
          go_ret2
          rw [HX.out]
          exact ⟨_, rfl, Sl.nil _ _ _ _ _ (Nat.zero_le _), bel_tr hbr hb4⟩
      · have g1 : (x.sg != 1) = true := by simp [hs]
        have g2 : (x.sg != -1) = false := by simp [hs]
        clear hs
        by_cases h0 : es = 0
        · subst h0
          go_wp2_with (first | (go_at_call 21; refine calls_gen fun W9 e9 => ?_; have y0 : W9.cell? ⟨wr.heap.size, 0, none⟩ = some (.int .i64 x.sg) := (by rw [e9]; go_simp); have y1 : W9.cell? ⟨wr.heap.size, 1, none⟩ = some (.int .i64 x.q) := (by rw [e9]; go_simp); have y2 : W9.cell? ⟨wr.heap.size, 2, none⟩ = some (.slice A' x.bs.length c') := (by rw [e9]; go_simp); have hb9 : Below wr.heap.size wr W9 := (by rw [e9]; exact (by repeat (first | exact Below.refl _ _ | assumption | refine Below.drew ?_ | refine bel_al ?_ _ | refine bel_set ?_ (by omega) _ | refine bel_tr ?_ (by assumption)))); clear e9; refine (HSUB.out W9 hb9).mono ?_; rintro e w4 ⟨rfl, hg4⟩; have hb4 := bel_tr hb9 hg4; replace y0 := cell_stays hg4 y0; replace y1 := cell_stays hg4 y1; replace y2 := cell_stays hg4 y2) | (at_builtin; refine wpList_app _ rfl (.tmp 41) (.tmp 49) 22 rfl w.heap.size 45 j0 _ 3 40 Tryz.underlying22 hj0 hy0 hy1 hy2 rfl (by decide) u7 k xs rfl (ownsRow_below (ownsRow_below hI.out.2.2.1 hb4) (bel_one _ _)) (some ⟨w4.heap.size, 0, none⟩) 1 1 [.int .i64 x.q, .slice A' x.bs.length c', .int .i64 x.sg] rfl (src_new w4 [.int .i64 x.q, .slice A' x.bs.length c', .int .i64 x.sg] _ 1 3 rfl (by simp [Value.oneCell'])) (by unfold maxLen; omega) (by omega) (by have h1 := hbr.size; have h2 := hb4.size; simp; omega) ?_; intro v7 w7 hown7 hg7 hloc7))
          have hrow4 := ownsRow_below hI.out.2.2.1 hb4
          have hb7 : Below w.heap.size w w7 := (bel_al (bel_tr hbr hb4) _).trans (grown_below hg7 (by have := hbr.size; have := hb4.size; simp; omega) (fun g h => (ownsRow_lt hrow4 h).1))
          have HO7 := Lib.hid hown7
          clear hown7 hg7 hloc7 hrow4
          go_wp2_with fail
          go_roundw
          case rel =>
            refine ⟨k + 1, xs ++ [.int .i64 x.q, .slice A' x.bs.length c', .int .i64 x.sg], by omega, by go_num, Lib.hid ⟨scan_go hget.out hI.out.1 HCE.out, ?_, HO7.out, ?_, hb7⟩⟩
            · rw [take_snoc' hget.out]
              intro y hy
              rcases List.mem_append.1 hy with hy | hy
              · exact hI.out.2.1 y hy
              · simp at hy; subst hy; exact HCE.out
            · rw [take_snoc' hget.out, List.map_append]
              exact hI.out.2.2.2.1.app (ent_one_mean HV.out)
          case measure => simp [intOf]; omega
        · have h0' : (es != 0) = true := by simpa using h0
          have HX : Hid (R = ([], es)) := Lib.hid (by
            have h5 : chgsE cs = es := (scan_stop hget.out hI.out.1 HCE.out h0).symm
            rw [← HR.out, h5, if_pos h0])
          clear h0
          go_wp2_with (go_at_call 21; refine calls_gen fun W9 e9 => ?_; have y0 : W9.cell? ⟨wr.heap.size, 0, none⟩ = some (.int .i64 x.sg) := (by rw [e9]; go_simp); have y1 : W9.cell? ⟨wr.heap.size, 1, none⟩ = some (.int .i64 x.q) := (by rw [e9]; go_simp); have y2 : W9.cell? ⟨wr.heap.size, 2, none⟩ = some (.slice A' x.bs.length c') := (by rw [e9]; go_simp); have hb9 : Below wr.heap.size wr W9 := (by rw [e9]; exact (by repeat (first | exact Below.refl _ _ | assumption | refine Below.drew ?_ | refine bel_al ?_ _ | refine bel_set ?_ (by omega) _ | refine bel_tr ?_ (by assumption)))); clear e9; refine (HSUB.out W9 hb9).mono ?_; rintro e w4 ⟨rfl, hg4⟩; have hb4 := bel_tr hb9 hg4; replace y0 := cell_stays hg4 y0; replace y1 := cell_stays hg4 y1; replace y2 := cell_stays hg4 y2)
          go_ret2
          rw [HX.out]
          exact ⟨_, rfl, Sl.nil _ _ _ _ _ (Nat.zero_le _), bel_tr hbr hb4⟩
    · have hk' : ¬ (k : Int) < (cs.length : Int) := by omega
      have hke : k = cs.length := by omega
      have hI' := hI.out
      rw [hke, List.take_length] at hI'
      have HX : Hid (R = limR (sumE [] (l ++ cs.map ety))) := Lib.hid (by
        have h5 : chgsE cs = 0 := (scan_end (by omega) hI.out.1).symm
        rw [← HR.out, h5, if_neg (by simp)])
      have HI := Lib.hid hI'
      have hl4 := led_ok HE1.out
      have HF : Hid (∀ y ∈ [l, cs.map ety], ∀ x ∈ y, FitE x) := Lib.hid fun y hy => by
        simp only [List.mem_cons, List.not_mem_nil, or_false] at hy
        rcases hy with rfl | rfl
        · exact hl4.2.1
        · intro x hx
          obtain ⟨c, hc, rfl⟩ := List.mem_map.1 hx
          exact chgE_fit (hI'.2.1 c hc)
      have HLEN : Hid ((flatL [l, cs.map ety]).length ≤ 8192) := Lib.hid (by simp [flatL]; omega)
      have HFL : Hid (flatL [l, cs.map ety] = l ++ cs.map ety) := Lib.hid (by simp [flatL])
      have hmore : IsEnts wr u7 (cs.map ety) := by
        have h6 := hI'.2.2.1
        exact sl_of_means hI'.2.2.2.1 hbr (by rw [List.length_map]; exact h6)
      have HMO := Lib.hid hmore
      obtain ⟨A7, c7, rfl, -⟩ := hmore
      clear hI hI' hke hl4
      go_wp2_with fail
      refine calls_gen fun W9 e9 => ?_
      have y0 : W9.cell? ⟨wr.heap.size, 0, none⟩ = some (.slice A l.length c) := by rw [e9]; go_simp
      have y1 : W9.cell? ⟨wr.heap.size, 1, none⟩ = some (.slice A7 (cs.map ety).length c7) := by rw [e9]; go_simp
      have hb9 : Below wr.heap.size wr W9 := by rw [e9]; exact (by repeat (first | exact Below.refl _ _ | assumption | refine Below.drew ?_ | refine bel_al ?_ _ | refine bel_set ?_ (by omega) _ | refine bel_tr ?_ (by assumption)))
      clear e9
      have hb09 := bel_tr hbr hb9
      refine (total_new [l, cs.map ety] _ W9 (leds_two y0 y1 (HA.out.stays entAt_stays hb09) (HMO.out.stays entAt_stays hb9)) (HT.out.stays hb09) HF.out HLEN.out).mono ?_
      rw [HFL.out]
      rintro e w3 ⟨v3, rfl, hv3, hb3⟩
      have HV3 := Lib.hid hv3
      obtain ⟨A3, c3, rfl, -⟩ := hv3
      go_wp2_with fail
      refine (limited_new w.heap.size _ _ w3 (HV3.out.mono (by have := hb09.size; omega))).mono ?_
      rintro e w4 ⟨v4, rfl, hv4, hb4⟩
      have HV4 := Lib.hid hv4
      obtain ⟨A4, c4, rfl, -⟩ := hv4
      go_wp2_with fail
      go_ret2
      rw [HX.out]
      exact ⟨_, rfl, HV4.out, bel_tr (bel_tr hb09 hb3) hb4⟩
theorem apply_any (l : List Ety) (cs : List Chg) (va vc : Value) (w : World) (ha : IsEnts w va l) (hc : IsChgs w vc cs) (htab : Tab w) : Calls Tryz.prog 7 #[va, vc] w (LedRet w (applyR l cs)) :=
  (apply_new l cs va vc w ha hc htab).mono fun _ _ h => h.is
end Go.Proofs.YtlofjcicpkfcdaaGreatDoor
