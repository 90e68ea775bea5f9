/- ledger.Difference. -/
import Derived.Test.YtlofjcicpkfcdaaGreatDoorLdiff2
import Derived.Test.YtlofjcicpkfcdaaGreatDoorLpl2
namespace Go.Proofs.YtlofjcicpkfcdaaGreatDoor
open Go.RowKit

def ChgRet (w : World) (r : List Chg × Int) (e : Ending) (W : World) : Prop := ∃ v, e = .returned (.tuple #[v, .int .i64 r.2]) ∧ IsChgs W v r.1 ∧ Below w.heap.size w W
theorem neg_take {a : List Ety} {k : Nat} {x : Ety} (h : a[k]? = some x) : neg (a.take (k + 1)) = neg (a.take k) ++ [⟨x.q, x.bs, -x.n⟩] := by
  unfold neg; rw [take_snoc' h, List.map_append]; rfl
theorem sumA_take {a : List Ety} {k : Nat} {x : Ety} (h : a[k]? = some x) : sumA (a.take (k + 1)) = sumA (a.take k) + absI x.n := by
  rw [take_snoc' h, sumA_app, sumA_cons, sumA_nil]; omega
theorem sumA_mono (a : List Ety) (k : Nat) : sumA (a.take k) ≤ sumA a := by
  have h := sumA_app (a.take k) (a.drop k)
  rw [List.take_append_drop] at h
  have := sumA_ge (a.drop k)
  omega
theorem sumA_one {a : List Ety} {x : Ety} (h : x ∈ a) : absI x.n ≤ sumA a := by
  induction a with
  | nil => simp at h
  | cons y a ih =>
    rw [sumA_cons]
    rcases List.mem_cons.1 h with rfl | h
    · have := sumA_ge a; omega
    · have := ih h; have := absI_ge y.n; omega
theorem neg_len (a : List Ety) : (neg a).length = a.length := by simp [neg]
theorem fit_neg {a : List Ety} (h : ∀ x ∈ a, FitE x) : ∀ x ∈ neg a, FitE x := fun x hx => by
  obtain ⟨y, hy, rfl⟩ := List.mem_map.1 hx
  have := h y hy
  exact ⟨this.1, by simp only; have := this.2; omega⟩

set_option maxRecDepth 100000 in
set_option maxHeartbeats 4000000 in
theorem diff_any (a b : List Ety) (va vb : Value) (w : World) (ha : IsEnts w va a) (hb : IsEnts w vb b) (htab : Tab w) : Calls Tryz.prog 17 #[va, vb] w (ChgRet w (diffR a b)) := by
  have HA := Lib.hid ha
  have HB := Lib.hid hb
  have HT := Lib.hid htab
  obtain ⟨A, c, rfl, h1, h2, hat⟩ := ha
  have hn := len_i64 h1 h2
  have HAT := Lib.hid hat
  obtain ⟨B, d, rfl, -⟩ := hb
  obtain ⟨j0, hj0, hy0, hy1, hy2⟩ := info_parts info_ent
  unfold diffR
  obtain ⟨e1, he1⟩ : ∃ e, bothE a b = e := ⟨_, rfl⟩
  have HE1 := Lib.hid he1
  rw [he1]
  clear he1 htab hat h1 h2
  by_cases h0 : e1 = 0
  case neg =>
    rw [if_pos h0]
    have h0' : (e1 != 0) = true := by simpa using h0
    go_enter Tryz.func17, Tryz.ntmps17
    go_wp2_with fail
    refine (both_any a b _ _ w HA.out HB.out).mono ?_
    rw [HE1.out]
    rintro e w2 ⟨rfl, hb2⟩
    go_wp2_with fail
    go_ret2
    exact ⟨_, rfl, Sl.nil _ _ _ _ _ (Nat.zero_le _), hb2⟩
  subst h0
  rw [if_neg (by simp)]
  have hab : ledErr a = 0 ∧ ledErr b = 0 := by
    have := HE1.out
    unfold bothE at this
    split at this
    · next h => exact absurd this h
    · next h => exact ⟨by simpa using h, this⟩
  have hoa := led_ok hab.1
  have hob := led_ok hab.2
  have HF : Hid (∀ l ∈ [neg a, b], ∀ x ∈ l, FitE x) := Lib.hid fun l hl => by
    simp only [List.mem_cons, List.not_mem_nil, or_false] at hl
    rcases hl with rfl | rfl
    · exact fit_neg hoa.2.1
    · exact hob.2.1
  have HFA := Lib.hid hoa.2.1
  have HLEN : Hid ((flatL [neg a, b]).length ≤ 8192) := Lib.hid (by simp [flatL, neg_len]; omega)
  have HFL : Hid (sumE [] (flatL [neg a, b]) = gapsOf a b) := Lib.hid (by simp [flatL, gapsOf])
  have HGF : Hid (∀ x ∈ gapsOf a b, x.bs.length ≤ 4096) := Lib.hid fun x hx => by
    obtain ⟨⟨y, hy, e1, e2⟩, _⟩ := sum_mem hx
    rw [← e2]
    rcases List.mem_append.1 hy with hy | hy
    · exact (fit_parts (fit_neg hoa.2.1 y hy)).2.2
    · exact (fit_parts (hob.2.1 y hy)).2.2
  have HGL : Hid ((gapsOf a b).length ≤ 8192) := Lib.hid (by
    have := sumE_len [] (neg a ++ b)
    rw [List.length_append, neg_len] at this
    simp only [List.length_nil] at this
    unfold gapsOf; omega)
  have HSM : Hid (sumA (gapsOf a b) ≤ 9007199254740992) := Lib.hid (by
    have h1 := sumA_sum (neg a ++ b)
    rw [sumA_app, sumA_neg] at h1
    have hf : ∀ l : List Ety, (∀ x ∈ l, FitE x) → l.length ≤ 4096 → sumA l ≤ 4503599627370496 := fun l hl hn => by
      have := sumA_le (l := l) (B := 1099511627776) fun x hx => by have := (hl x hx).2; unfold absI; split <;> omega
      omega
    have h2 := hf a hoa.2.1 hoa.2.2
    have h3 := hf b hob.2.1 hob.2.2
    unfold gapsOf
    omega)
  have hal : a.length ≤ 4096 := hoa.2.2
  clear hoa hob hab
  obtain ⟨T, hTT⟩ : ∃ T, gapsOf a b = T := ⟨_, rfl⟩
  rw [hTT] at HFL HGF HGL HSM
  rw [hTT]
  clear hTT
  obtain ⟨R, hR⟩ : ∃ R : List Chg × Int, (if 4096 < sumA T then ([], 5) else (addsBoth T, 0)) = R := ⟨_, rfl⟩
  have HR := Lib.hid hR
  rw [hR]
  clear hR
  go_enter Tryz.func17, Tryz.ntmps17
  go_wp2_with fail
  refine (both_any a b _ _ w HA.out HB.out).mono ?_
  rw [HE1.out]
  rintro e w2 ⟨rfl, hb2⟩
  go_wp2_with fail
  go_loopw [7, 24] (fun av i wr => ∃ (k : Nat) (xs : List Value), k ≤ a.length ∧ i = .int .i64 k ∧ Hid (wr.ownsRow w.heap.size 45 3 av k xs ∧ Means EntAt 3 w xs (neg (a.take k)) ∧ Below w.heap.size w wr)) (fun _ i _ => a.length - (intOf i).toNat)
  case atStart => exact ⟨0, [], Nat.zero_le _, rfl, Lib.hid ⟨⟨by simp, .inl ⟨rfl, rfl⟩⟩, Means.nil, hb2⟩⟩
  case round =>
    obtain ⟨k, xs, hk, rfl, hI⟩ := hrel
    have hbr := hI.out.2.2
    by_cases hlt : k < a.length
    · have hk' : (k : Int) < (a.length : Int) := by omega
      obtain ⟨b1, o1, rfl, v', hv', c0, c1, c2⟩ := HAT.out k a[k] (List.getElem?_eq_getElem hlt)
      replace c0 := cell_stays hbr c0
      replace c1 := cell_stays hbr c1
      replace c2 := cell_stays hbr c2
      have hget := Lib.hid (List.getElem?_eq_getElem hlt)
      have hfx := (HFA.out a[k] (List.getElem_mem hlt)).2
      obtain ⟨x, hx⟩ : ∃ x, x = a[k] := ⟨_, rfl⟩
      rw [← hx] at hget c0 c2 hv' hfx
      have HV := Lib.hid hv'
      obtain ⟨A', c', rfl, -⟩ := hv'
      have hbl : b1 < wr.heap.size := World.block_lt_of_cell? wr ⟨b1, _, none⟩ c0
      have hnb : b1 ≠ wr.heap.size := by omega
      have hnb' : wr.heap.size ≠ b1 := by omega
      have hw1 : IntKind.i64.wrap (-x.n) = -x.n := IntWalk.i64_in _ (by omega)
      obtain ⟨nk, hnk⟩ : ∃ m, -x.n = m := ⟨_, rfl⟩
      rw [hnk] at hw1
      have HNK := Lib.hid hnk
      clear hx
      go_wp2_with (at_builtin; refine wpList_app _ rfl (.tmp 32) (.tmp 34) 22 rfl w.heap.size 45 j0 _ 3 40 Tryz.underlying22 hj0 hy0 hy1 hy2 rfl (by decide) u7 k xs rfl (ownsRow_below hI.out.1 (bel_al (bel_one _ _) _)) (some ⟨wr.heap.size + 1, 0, none⟩) 1 1 [.int .i64 x.q, .slice A' x.bs.length c', .int .i64 nk] rfl (src_new' _ [.int .i64 x.q, .slice A' x.bs.length c', .int .i64 nk] _ 1 3 _ (by simp) rfl (by simp [Value.oneCell'])) (by unfold maxLen; omega) (by omega) (by have h1 := hbr.size; simp; omega) ?_; intro v7 w7 hown7 hg7 hloc7)
      have hb7 : Below w.heap.size w w7 := (bel_al (bel_al hbr _) _).trans (grown_below hg7 (by have := hbr.size; simp; omega) (fun g h => (ownsRow_lt hI.out.1 h).1))
      have HO7 := Lib.hid hown7
      clear hown7 hg7 hloc7
      go_wp2_with fail
      go_roundw
      case rel =>
        refine ⟨k + 1, xs ++ [.int .i64 x.q, .slice A' x.bs.length c', .int .i64 nk], by omega, by go_num, Lib.hid ⟨HO7.out, ?_, hb7⟩⟩
        rw [neg_take hget.out, HNK.out]
        exact hI.out.2.1.app (ent_one_mean HV.out)
      case measure => simp [intOf]; omega
    · have hk' : ¬ (k : Int) < (a.length : Int) := by omega
      have hke : k = a.length := by omega
      have hI' := hI.out
      rw [hke, List.take_length] at hI'
      have hless : IsEnts wr u7 (neg a) := by
        have h6 := hI'.1
        exact sl_of_means hI'.2.1 hbr (by rw [neg_len]; exact h6)
      have HL := Lib.hid hless
      obtain ⟨A7, c7, rfl, -⟩ := hless
      clear hI hI' hke
      go_wp2_with fail
      refine calls_gen fun W9 e9 => ?_
      have y0 : W9.cell? ⟨wr.heap.size, 0, none⟩ = some (.slice A7 (neg a).length c7) := by rw [e9]; go_simp
      have y1 : W9.cell? ⟨wr.heap.size, 1, none⟩ = some (.slice B b.length d) := by rw [e9]; go_simp
      have hb9 : Below wr.heap.size wr W9 := by rw [e9]; exact (by repeat (first | exact Below.refl _ _ | assumption | refine Below.drew ?_ | refine bel_al ?_ _ | refine bel_set ?_ (by omega) _ | refine bel_tr ?_ (by assumption)))
      clear e9
      have hb09 := bel_tr hbr hb9
      refine (total_any [neg a, b] _ W9 (leds_two y0 y1 (HL.out.stays entAt_stays hb9) (HB.out.stays entAt_stays hb09)) (HT.out.stays hb09) HF.out HLEN.out).mono ?_
      rw [HFL.out]
      rintro e w3 ⟨v3, rfl, hv3, hb3⟩
      have HV3 := Lib.hid hv3
      obtain ⟨A3, c3, rfl, h1, h2, hat3⟩ := hv3
      have hn3 := len_i64 h1 h2
      have HT3 := Lib.hid hat3
      have hb03 := bel_tr hb09 hb3
      clear h1 h2 hat3 y0 y1 hb9 hb09 hb3 hb2
      go_wp2_with fail
      refine wp_gen fun w4 e4 => ?_
      obtain ⟨gb, hgb⟩ : ∃ g, w3.heap.size = g := ⟨_, rfl⟩
      have hb4 : Below w3.heap.size w3 w4 := by rw [e4]; exact (by repeat (first | exact Below.refl _ _ | assumption | refine Below.drew ?_ | refine bel_al ?_ _ | refine bel_set ?_ (by omega) _ | refine bel_tr ?_ (by assumption)))
      have g0 : w4.cell? ⟨w3.heap.size, 0, none⟩ = some (.slice A3 T.length c3) := by rw [e4]; go_simp
      rw [hgb] at g0 ⊢
      have G0 := Lib.hid g0
      have hb04 := bel_tr hb03 hb4
      have HT4 := Lib.hid (HV3.out.stays entAt_stays hb4)
      have HT4c := Lib.hid (fun (k : Nat) (x : Ety) (hk : T[k]? = some x) => (show ∃ b o, A3 = some ⟨b, o, none⟩ ∧ EntAt w4 b (o + k * 3) x by obtain ⟨b, o, hA, he⟩ := HT3.out k x hk; exact ⟨b, o, hA, entAt_stays _ _ _ _ _ hb4 he⟩))
      clear e4 g0 hgb hb4
      go_loopw [11, 43] (fun m i wr => ∃ (k : Nat) (m' : Int), k ≤ T.length ∧ i = .int .i64 k ∧ m = .int .i64 m' ∧ 0 ≤ m' ∧ m' ≤ 4096 ∧ Hid (m' = sumA (T.take k) ∧ Below w4.heap.size w4 wr)) (fun _ i _ => T.length - (intOf i).toNat)
      case atStart => exact ⟨0, 0, Nat.zero_le _, rfl, rfl, by omega, by omega, Lib.hid ⟨rfl, Below.refl _ _⟩⟩
      case round =>
        obtain ⟨k, m', hk, rfl, rfl, hm0, hm1, hI⟩ := hrel
        have hbr := hI.out.2
        by_cases hlt : k < T.length
        · have hk' : (k : Int) < (T.length : Int) := by omega
          obtain ⟨b1, o1, rfl, v', hv', c0, c1, c2⟩ := HT4c.out k T[k] (List.getElem?_eq_getElem hlt)
          replace c0 := cell_stays hbr c0
          replace c1 := cell_stays hbr c1
          replace c2 := cell_stays hbr c2
          have hget := Lib.hid (List.getElem?_eq_getElem hlt)
          have hfx := Int.le_trans (sumA_one (List.getElem_mem hlt)) HSM.out
          obtain ⟨x, hx⟩ : ∃ x, x = T[k] := ⟨_, rfl⟩
          rw [← hx] at hget c0 c2 hv' hfx
          obtain ⟨A', c', rfl, -⟩ := hv'
          have hbl : b1 < wr.heap.size := World.block_lt_of_cell? wr ⟨b1, _, none⟩ c0
          have hnb : b1 ≠ wr.heap.size := by omega
          have hnb' : wr.heap.size ≠ b1 := by omega
          have hax := absI_ge x.n
          have hw1 : IntKind.i64.wrap (-x.n) = -x.n := IntWalk.i64_in _ (by omega)
          obtain ⟨M, hM⟩ : ∃ M, max x.n (-x.n) = M := ⟨_, rfl⟩
          have hMa : M = absI x.n := by rw [← hM]; unfold absI; split <;> omega
          have HMA := Lib.hid hMa
          have hM0 : 0 ≤ M := by omega
          have hM1 : M ≤ 9007199254740992 := by omega
          clear hx hMa hax hfx
          by_cases hbig : 4096 < m' + M
          · have HX : Hid (R = ([], 5)) := Lib.hid (by
              have h1 := sumA_take hget.out
              have h2 := sumA_mono T (k + 1)
              have h3 := hI.out.1
              have h4 := HMA.out
              rw [← HR.out, if_pos (by omega)])
            go_wp2_with fail
            go_ret2
            rw [HX.out]
            exact ⟨_, rfl, Sl.nil _ _ _ _ _ (Nat.zero_le _), bel_tr hb04 (bel_tr hbr (by repeat (first | exact Below.refl _ _ | assumption | refine Below.drew ?_ | refine bel_al ?_ _ | refine bel_set ?_ (by omega) _ | refine bel_tr ?_ (by assumption))))⟩
          · go_wp2_with fail
            go_roundw
            case rel =>
              refine ⟨k + 1, m' + M, by omega, by go_num, rfl, by omega, by omega, Lib.hid ⟨?_, bel_tr hbr (by repeat (first | exact Below.refl _ _ | assumption | refine Below.drew ?_ | refine bel_al ?_ _ | refine bel_set ?_ (by omega) _ | refine bel_tr ?_ (by assumption)))⟩⟩
              rw [sumA_take hget.out, ← HMA.out, hI.out.1]
            case measure => simp [intOf]; omega
        · have hk' : ¬ (k : Int) < (T.length : Int) := by omega
          have hke : k = T.length := by omega
          have hI1 := hI.out.1
          rw [hke, List.take_length] at hI1
          have HX : Hid (R = (addsBoth T, 0)) := Lib.hid (by rw [← HR.out, if_neg (by omega)])
          have HFIT : Hid (∀ x ∈ T, x.bs.length ≤ 4096 ∧ -4096 ≤ x.n ∧ x.n ≤ 4096) := Lib.hid fun x hx => by
            have h1 := sumA_one hx
            have h2 := absI_ge x.n
            exact ⟨HGF.out x hx, by omega, by omega⟩
          have HAD : Hid ((addsOf (-1) T).length ≤ 4096) := Lib.hid (by
            have h1 := adds_len T
            unfold addsBoth at h1
            rw [List.length_append] at h1
            omega)
          have HTR := Lib.hid (HT4.out.stays entAt_stays hbr)
          have g1 := Lib.hid (cell_stays hbr G0.out)
          have hb0r := bel_tr hb04 hbr
          clear hI1 hke hI hbr
          go_wp2_with fail
          refine (add_any (-1) (.inr rfl) T A3 c3 gb wr.heap.size wr _ HTR.out rfl g1.out (bel_one _ _) HFIT.out HGL.out (.slice none 0 0) [] (by simp) (CW.nil _ _) (by go_simp) (by go_simp)).mono ?_
          rintro e w5 ⟨rfl, av1, ms1, hcw1, hoc1, hof1, hms1, hb5⟩
          have HCW1 := Lib.hid hcw1
          have HOC1 := Lib.hid hoc1
          have HOF1 := Lib.hid hof1
          have HMS1 := Lib.hid hms1
          have HB5 := Lib.hid hb5
          have hml1 : ms1.length ≤ 100000000 := by
            have h1 := congrArg List.length hms1
            simp only [List.length_map, List.map_nil, List.nil_append] at h1
            have := HAD.out
            omega
          clear hcw1 hoc1 hof1 hms1 hb5
          go_wp2_with fail
          refine (add_any 1 (.inl rfl) T A3 c3 gb wr.heap.size wr _ HTR.out rfl g1.out HB5.out HFIT.out HGL.out av1 ms1 hml1 HCW1.out HOC1.out HOF1.out).mono ?_
          rintro e w6 ⟨rfl, av2, ms2, hcw2, hoc2, hof2, hms2, hb6⟩
          have HCW2 := Lib.hid hcw2
          have HMS2 := Lib.hid hms2
          have HB6 := Lib.hid hb6
          clear hcw2 hof2 hms2 hb6
          go_wp2_with fail
          go_ret2
          rw [HX.out]
          refine ⟨_, rfl, ?_, bel_tr hb0r HB6.out⟩
          have h7 := HCW2.out.is
          rw [HMS2.out, HMS1.out] at h7
          simpa [addsBoth] using h7
end Go.Proofs.YtlofjcicpkfcdaaGreatDoor
