/- ref.Changes, Difference, Standing. -/
import Derived.Test.YtlofjcicpkfcdaaDoorLrsum
namespace Go.Proofs.YtlofjcicpkfcdaaDoor
open Go.RowKit

theorem addsOf_len {s : Int} (hs : s = 1 ∨ s = -1) (L : List Ety) : ((addsOf s L).length : Int) ≤ sumA L := by
  induction L with
  | nil => simp [addsOf, sumA]
  | cons x L ih =>
    unfold addsOf at *
    rw [List.flatMap_cons, List.length_append, List.length_replicate, sumA_cons]
    have := absI_ge x.n
    rcases hs with rfl | rfl <;> omega
theorem gaps_alt {a b : List Ety} (hb : Led b) : sumE b (scaleE (-1) a) = gapsOf a b := by
  obtain ⟨h1, h2⟩ := sumE_led hb (scaleE (-1) a)
  refine led_uniq h1 sum0.1 fun q bs => ?_
  unfold gapsOf
  rw [h2, sum0.2, cnt_app, scale_neg]; omega
def preC (T : List Ety) (j : Nat) : List Chg := if j = 0 then [] else if j = 1 then addsOf (-1) T else addsBoth T
theorem preC_len {T : List Ety} (h : sumA T ≤ 4096) (j : Nat) : (preC T j).length ≤ 8192 := by
  unfold preC addsBoth
  have h1 := addsOf_len (.inr rfl : (-1 : Int) = 1 ∨ (-1 : Int) = -1) T
  have h2 := addsOf_len (.inl rfl : (1 : Int) = 1 ∨ (1 : Int) = -1) T
  split
  · simp
  · split
    · omega
    · rw [List.length_append]; omega
theorem preC_next {T : List Ety} {j : Nat} {s : Int} (hj : j < 2) (hs : s = 2 * j - 1) : preC T j ++ addsOf s T = preC T (j + 1) := by
  subst hs
  match j, hj with
  | 0, _ => simp [preC]
  | 1, _ => simp [preC, addsBoth]
def ChgB (w : World) (r : List Chg × Bool) (e : Ending) (W : World) : Prop := ∃ v, e = .returned (.tuple #[v, .bool r.2]) ∧ IsChgs W v r.1 ∧ Below w.heap.size w W

set_option maxRecDepth 100000 in
set_option maxHeartbeats 8000000 in
theorem rchanges_any (a b T : List Ety) (va vb : Value) (w : World) (ha : IsEnts w va a) (hb : IsEnts w vb b) (hT : sumE b (scaleE (-1) a) = T) (hTl : T.length ≤ 1000) (hal : a.length ≤ 100) (hbl : b.length ≤ 100) (hs : sumA b + sumA a ≤ 1000000000000000) :
    Calls Tryd.prog 58 #[va, vb] w (ChgB w (if 4096 < sumA T then ([], false) else (addsBoth T, true))) := by
  have HA := Lib.hid ha
  have HB := Lib.hid hb
  have HTT := Lib.hid hT
  have HSM : Hid (sumA T ≤ 1000000000000000) := Lib.hid (by
    have h1 := sumA_sumE b (scaleE (-1) a)
    rw [sumA_scale (.inr rfl), hT] at h1; omega)
  obtain ⟨A, ca, rfl, -⟩ := ha
  obtain ⟨B, cb, rfl, -⟩ := hb
  obtain ⟨j0, hj0, hy0, hy1, hy2⟩ := info_parts info_chg
  obtain ⟨R, hR⟩ : ∃ R : List Chg × Bool, (if 4096 < sumA T then ([], false) else (addsBoth T, true)) = R := ⟨_, rfl⟩
  have HR := Lib.hid hR
  rw [hR]
  clear hR hT
  go_enter Tryd.func58, Tryd.ntmps58
  go_wp2_with fail
  refine (rsum_any b a (-1) (.inr rfl) _ _ w HB.out HA.out (by omega) hs).mono ?_
  rw [HTT.out]
  rintro e w1 ⟨v1, rfl, hv1, hb1⟩
  have HV1 := Lib.hid hv1
  obtain ⟨A1, c1, rfl, h1, h2, hat⟩ := hv1
  have hn := len_i64 h1 h2
  have HL := Lib.hid hat
  have HB1 := Lib.hid hb1
  clear hat h1 h2 hb1 hs
  go_wp2_with fail
  go_loopw [7, 8] (fun mv iv wr => ∃ (k : Nat) (m : Int), k ≤ T.length ∧ mv = .int .i64 m ∧ iv = .int .i64 k ∧ 0 ≤ m ∧ m ≤ 1000000000000000 ∧ Hid (m = sumA (T.take k) ∧ Below w1.heap.size w1 wr)) (fun _ i _ => T.length - (intOf i).toNat)
  case atStart => exact ⟨0, 0, Nat.zero_le _, rfl, rfl, by omega, by omega, Lib.hid ⟨rfl, Below.refl _ _⟩⟩
  case round =>
    obtain ⟨k, m, hk, rfl, rfl, hm0, hm1, hI⟩ := hrel
    have hbr := hI.out.2
    by_cases hlt : k < T.length
    · have hk' : (k : Int) < (T.length : Int) := by omega
      by_cases hbig : m ≤ 4096
      · obtain ⟨b1, o1, rfl, v', hv', x0, x1, x2⟩ := HL.out k T[k] (List.getElem?_eq_getElem hlt)
        replace x2 := cell_stays hbr x2
        have hget := Lib.hid (List.getElem?_eq_getElem hlt)
        have hfx := Int.le_trans (sumA_one (List.getElem_mem hlt)) HSM.out
        obtain ⟨x, hx⟩ : ∃ x, x = T[k] := ⟨_, rfl⟩
        rw [← hx] at hget x2 hfx
        clear hx hv' x0 x1
        have hax := absI_ge x.n
        have hw1 : IntKind.i64.wrap (-x.n) = -x.n := IntWalk.i64_in _ (by omega)
        obtain ⟨M, hM⟩ : ∃ M, max x.n (-x.n) = M := ⟨_, rfl⟩
        have hMa : M = absI x.n := by rw [← hM]; unfold absI; split <;> omega
        have HMA := Lib.hid hMa
        have hM0 : 0 ≤ M := by omega
        have hM1 : M ≤ 1000000000000000 := by omega
        have hw2 : IntKind.i64.wrap (m + M) = m + M := IntWalk.i64_in _ (by omega)
        have hnext := sumA_take hget.out
        have hmono := sumA_mono T (k + 1)
        have hmn : m + M ≤ 1000000000000000 := by have := hI.out.1; have := HSM.out; omega
        have HNX := Lib.hid hnext
        clear hMa hax hfx hnext hmono
        go_wp2_with fail
        refine wp_region_F (fun W => W.cell? ⟨b1, o1 + k * 3 + 2, none⟩ = some (.int .i64 x.n)) (by repeat (first | exact grows_cell _ _ _ | exact grows_true | refine grows_and ?_ ?_)) (by kernel_rfl) (by kernel_rfl) ?hF ?_; (case hF => (first | exact ⟨‹_›, ‹_›⟩ | (go_simp; done) | (simp [*]; done) | (repeat' (first | (refine And.intro ?_ ?_) | (go_simp; done) | exact cell_stays (bel_al (Below.refl _ _) _) (by assumption) | assumption)))); intro hne hxx; have hG : Hid (Grows (fun W => W.cell? ⟨b1, o1 + k * 3 + 2, none⟩ = some (.int .i64 x.n))) := (by repeat (first | exact grows_cell _ _ _ | exact grows_true | refine grows_and ?_ ?_)); (repeat (go_big_quiet_step (fail))); clear hG hxx hne; refine wpQuiet_nil ?_; rintro wq ⟨⟨w', hb', hF'⟩, rfl⟩
        clear hF'
        go_wp2_with fail
        go_roundw
        case rel =>
          refine ⟨k + 1, m + M, by omega, rfl, by go_num, by omega, by omega, Lib.hid ⟨?_, bel_tr hbr hb'⟩⟩
          rw [HNX.out, ← HMA.out, hI.out.1]
        case measure => simp [intOf]; omega
      · have hbig' : 4096 < m := by omega
        have HX : Hid (R = ([], false)) := Lib.hid (by
          have h2 := sumA_mono T k
          have h3 := hI.out.1
          rw [← HR.out, if_pos (by omega)])
        go_wp2_with fail
        go_ret2
        rw [HX.out]
        exact ⟨_, rfl, Sl.nil _ _ _ _ _ (Nat.zero_le _), bel_tr HB1.out hbr⟩
    · have hk' : ¬ (k : Int) < (T.length : Int) := by omega
      have hke : k = T.length := by omega
      have hI1 := hI.out.1
      rw [hke, List.take_length] at hI1
      by_cases hbig : m ≤ 4096
      case neg =>
        have hbig' : 4096 < m := by omega
        have HX : Hid (R = ([], false)) := Lib.hid (by rw [← HR.out, if_pos (by omega)])
        clear hI1 hke
        go_wp2_with fail
        go_ret2
        rw [HX.out]
        exact ⟨_, rfl, Sl.nil _ _ _ _ _ (Nat.zero_le _), bel_tr HB1.out hbr⟩
      have hsT : sumA T ≤ 4096 := by omega
      have HX : Hid (R = (addsBoth T, true)) := Lib.hid (by rw [← HR.out, if_neg (by omega)])
      have HPL := Lib.hid (preC_len hsT)
      have HST := Lib.hid hsT
      have HVT := Lib.hid (HV1.out.stays entAt_stays hbr)
      have HLT := Lib.hid (fun (k : Nat) (x : Ety) (hk : T[k]? = some x) => (show ∃ b o, A1 = some ⟨b, o, none⟩ ∧ EntAt wr b (o + k * 3) x by obtain ⟨b, o, hA, he⟩ := HL.out k x hk; exact ⟨b, o, hA, entAt_stays _ _ _ _ _ hbr he⟩))
      have HBT := Lib.hid (bel_tr HB1.out hbr)
      clear hI hI1 hke hsT hbr
      obtain ⟨wt, rfl⟩ : ∃ wt : World, wt = wr := ⟨_, rfl⟩
      go_wp2_with fail
      go_loopw [9, 10] (fun ov sv wr => ∃ (j : Nat) (s : Int) (xs : List Value), j ≤ 2 ∧ sv = .int .i64 s ∧ s = 2 * j - 1 ∧ Hid (wr.ownsRow wt.heap.size 36 3 ov (preC T j).length xs ∧ Means ChgAt 3 wt xs (preC T j) ∧ Below wt.heap.size wt wr)) (fun _ s _ => (3 - intOf s).toNat)
      case atStart => exact ⟨0, -1, [], by omega, rfl, rfl, Lib.hid ⟨⟨by simp [preC], .inl ⟨rfl, rfl⟩⟩, Means.nil, Below.refl _ _⟩⟩
      case round =>
        obtain ⟨j, s, xs, hj, rfl, hsj, hI⟩ := hrel
        have HSJ := Lib.hid hsj
        have hsb : -1 ≤ s ∧ s ≤ 3 := by omega
        by_cases hj2 : j < 2
        · have hs1 : s ≤ 1 := by omega
          have HSS : Hid (s = 1 ∨ s = -1) := Lib.hid (by omega)
          obtain ⟨P, hP⟩ : ∃ P, preC T j = P := ⟨_, rfl⟩
          have hPl := HPL.out j
          rw [hP] at hPl
          have hI1 := hI.out
          rw [hP] at hI1
          have HI := Lib.hid hI1
          have HP := Lib.hid hP
          clear hI hI1 hP hsj
          obtain ⟨w2, rfl⟩ : ∃ w2 : World, w2 = wr := ⟨_, rfl⟩
          go_wp2_with fail
          go_loopw [9, 11] (fun ov iv wr => ∃ (i : Nat) (xs : List Value), i ≤ T.length ∧ iv = .int .i64 i ∧ Hid (wr.ownsRow wt.heap.size 36 3 ov (P ++ addsOf s (T.take i)).length xs ∧ Means ChgAt 3 wt xs (P ++ addsOf s (T.take i)) ∧ Below wt.heap.size wt wr)) (fun _ i _ => T.length - (intOf i).toNat)
          case atStart => exact ⟨0, xs, Nat.zero_le _, rfl, Lib.hid (by rw [List.take_zero]; simpa [addsOf] using HI.out)⟩
          case round =>
            obtain ⟨i, xs, hi, rfl, hI⟩ := hrel
            by_cases hlt : i < T.length
            · have hi' : (i : Int) < (T.length : Int) := by omega
              obtain ⟨b1, o1, rfl, v', hv', x0, x1, x2⟩ := HLT.out i T[i] (List.getElem?_eq_getElem hlt)
              have hget := Lib.hid (List.getElem?_eq_getElem hlt)
              have hfx := Int.le_trans (sumA_one (List.getElem_mem hlt)) HST.out
              obtain ⟨x, hx⟩ : ∃ x, x = T[i] := ⟨_, rfl⟩
              rw [← hx] at hget x0 x2 hv' hfx
              have HV := Lib.hid hv'
              obtain ⟨A', c', rfl, -⟩ := hv'
              have HXC := Lib.hid (fun (W : World) (hW : Below wt.heap.size wt W) => (show (W.cell? ⟨b1, o1 + i * 3, none⟩ = some (.int .i64 x.q) ∧ W.cell? ⟨b1, o1 + i * 3 + 1, none⟩ = some (.slice A' x.bs.length c') ∧ W.cell? ⟨b1, o1 + i * 3 + 2, none⟩ = some (.int .i64 x.n)) from ⟨cell_stays hW x0, cell_stays hW x1, cell_stays hW x2⟩))
              have HBB : Hid (b1 < wt.heap.size) := Lib.hid (World.block_lt_of_cell? wt ⟨b1, _, none⟩ x0)
              have hax := absI_ge x.n
              obtain ⟨m2, hm2⟩ : ∃ m : Int, x.n * s = m := ⟨_, rfl⟩
              have hm2b : -4096 ≤ m2 ∧ m2 ≤ 4096 := by rw [← hm2]; rcases HSS.out with h | h <;> rw [h] <;> omega
              have hw1 : IntKind.i64.wrap (x.n * s) = m2 := by rw [hm2]; exact IntWalk.i64_in _ (by omega)
              obtain ⟨M, hM⟩ : ∃ M : Nat, (s * x.n).toNat = M := ⟨_, rfl⟩
              have HMM : Hid ((M : Int) = max m2 0) := Lib.hid (by rw [← hM, Int.mul_comm, hm2]; omega)
              have HMN := Lib.hid hM
              have hM4 : M ≤ 4096 := by have := HMM.out; omega
              have HLI : Hid ((addsOf s (T.take i)).length ≤ 4096) := Lib.hid (by
                have h1 := addsOf_len HSS.out (T.take i)
                have h2 := sumA_mono T i
                have := HST.out
                omega)
              have HI2 := Lib.hid hI.out
              clear hx hax hfx hM hm2 x0 x1 x2 hI
              obtain ⟨w3, rfl⟩ : ∃ w3 : World, w3 = wr := ⟨_, rfl⟩
              go_wp2_with fail
              go_loopw [9, 12] (fun ov cv wr => ∃ (c : Nat) (xs : List Value), c ≤ M ∧ cv = .int .i64 c ∧ Hid (wr.ownsRow wt.heap.size 36 3 ov (P ++ addsOf s (T.take i) ++ List.replicate c (Chg.mk s x.q x.bs)).length xs ∧ Means ChgAt 3 wt xs (P ++ addsOf s (T.take i) ++ List.replicate c (Chg.mk s x.q x.bs)) ∧ Below wt.heap.size wt wr)) (fun _ c _ => M - (intOf c).toNat)
              case atStart => exact ⟨0, xs, Nat.zero_le _, rfl, Lib.hid (by simpa using HI2.out)⟩
              case round =>
                obtain ⟨c0, xs, hc, rfl, hI⟩ := hrel
                obtain ⟨x0, x1, x2⟩ := HXC.out wr hI.out.2.2
                by_cases hcM : c0 < M
                · have hcm : (c0 : Int) < m2 := by have := HMM.out; omega
                  obtain ⟨Q, hQ⟩ : ∃ Q, P ++ addsOf s (T.take i) ++ List.replicate c0 (Chg.mk s x.q x.bs) = Q := ⟨_, rfl⟩
                  have hI1 := hI.out
                  rw [hQ] at hI1
                  have hQl : Q.length ≤ 100000 := by
                    rw [← hQ, List.length_append, List.length_append, List.length_replicate]
                    have := HLI.out
                    omega
                  have HQN : Hid (P ++ addsOf s (T.take i) ++ List.replicate (c0 + 1) (Chg.mk s x.q x.bs) = Q ++ [⟨s, x.q, x.bs⟩]) := Lib.hid (by rw [← hQ, List.replicate_succ', ← List.append_assoc])
                  have HI3 := Lib.hid hI1
                  have hszr := hI1.2.2.size
                  clear hI hI1 hQ
                  go_wp2_with fail
                  go_region_law (go_must (refine step_app _ (by rfl) (.tmp 63) (.tmp 76) 25 (by rfl) wt.heap.size 36 j0 _ 3 40 Tryd.underlying25 hj0 hy0 hy1 hy2 rfl (by decide) u9 Q.length xs (by rfl) (ownsRow_below HI3.out.1 (by repeat (first | exact Below.refl _ _ | assumption | refine Below.drew ?_ | refine bel_al ?_ _ | refine bel_set ?_ (by omega) _ | refine bel_tr ?_ (by assumption)))) (some ⟨wr.heap.size, 0, none⟩) 1 1 [.int .i64 s, .int .i64 x.q, .slice A' x.bs.length c'] (by rfl) (by first | exact src_new' _ [.int .i64 s, .int .i64 x.q, .slice A' x.bs.length c'] _ 1 3 _ (by simp) rfl (by simp [Value.oneCell']) | exact Src.stays (src_new' _ [.int .i64 s, .int .i64 x.q, .slice A' x.bs.length c'] 36 1 3 _ (by simp) rfl (by simp [Value.oneCell'])) (by repeat (first | exact Below.refl _ _ | assumption | refine Below.drew ?_ | refine bel_al ?_ _ | refine bel_set ?_ (by omega) _ | refine bel_tr ?_ (by assumption)))) (by unfold maxLen; omega) (by omega) (by simp; omega) ?_; intro v7 w7 hown7 hg7 hloc7))
                  all_goals
                    have hb7 : Below wt.heap.size wt w7 := (bel_al HI3.out.2.2 _).drew.trans (grown_below hg7 (by simp; omega) (fun g h => (ownsRow_lt HI3.out.1 h).1))
                    have HO7 := Lib.hid hown7
                    clear hown7 hg7 hloc7
                    go_wp2_with fail
                    go_roundw
                    case rel =>
                      refine ⟨c0 + 1, xs ++ [.int .i64 s, .int .i64 x.q, .slice A' x.bs.length c'], by omega, by go_num, Lib.hid ?_⟩
                      rw [HQN.out]
                      exact ⟨by simpa using HO7.out, HI3.out.2.1.app (chg_mean HV.out), hb7⟩
                    case measure => simp [intOf]; omega
                · have hcm : ¬ (c0 : Int) < m2 := by have := HMM.out; omega
                  have hce : c0 = M := by omega
                  have hI1 := hI.out
                  rw [hce, ← HMN.out, List.append_assoc, ← adds_take hget.out] at hI1
                  have HI3 := Lib.hid hI1
                  clear hI hI1 hce
                  go_wp2_with fail
                  go_roundw
                  case rel => exact ⟨i + 1, xs, by omega, by go_num, HI3⟩
                  case measure => simp [intOf]; omega
            · have hi' : ¬ (i : Int) < (T.length : Int) := by omega
              have hie : i = T.length := by omega
              have hI1 := hI.out
              rw [hie, List.take_length, ← HP.out, preC_next hj2 HSJ.out] at hI1
              have HI2 := Lib.hid hI1
              clear hI hI1 hie
              go_wp2_with fail
              go_roundw
              case rel => exact ⟨j + 1, s + 2, xs, by omega, by go_num, by have := HSJ.out; omega, HI2⟩
              case measure => simp [intOf]; omega
        · have hs1 : ¬ s ≤ 1 := by omega
          have hje : j = 2 := by omega
          have hI1 := hI.out
          rw [hje, show preC T 2 = addsBoth T by simp [preC]] at hI1
          have hm := sl_of_means hI1.2.1 hI1.2.2 hI1.1
          have HM := Lib.hid hm
          have HBE := Lib.hid hI1.2.2
          obtain ⟨A7, c7, rfl, -⟩ := hm
          clear hI hI1 hje hsj
          go_wp2_with fail
          go_ret2
          rw [HX.out]
          exact ⟨_, rfl, HM.out, bel_tr HBT.out HBE.out⟩

set_option maxRecDepth 100000 in
set_option maxHeartbeats 1000000 in
theorem rdiff_any (a b : List Ety) (va vb : Value) (w : World) (ha : IsEnts w va a) (hb : IsEnts w vb b) (hal : a.length ≤ 100) (hbl : b.length ≤ 100) : Calls Tryd.prog 23 #[va, vb] w (ChgRet w (diffR a b)) := by
  have HA := Lib.hid ha
  have HB := Lib.hid hb
  obtain ⟨A, c, rfl, -⟩ := ha
  obtain ⟨B, d, rfl, -⟩ := hb
  unfold diffR
  obtain ⟨e1, he1⟩ : ∃ e, bothE a b = e := ⟨_, rfl⟩
  have HE1 := Lib.hid he1
  rw [he1]
  clear he1
  by_cases h0 : e1 = 0
  · subst h0
    rw [if_neg (by simp)]
    obtain ⟨k1, k2⟩ := both_0 HE1.out
    have h1 := led_ok k1
    have h2 := led_ok k2
    have HS : Hid (sumA b + sumA a ≤ 1000000000000000) := Lib.hid (by
      have := fit_sum h1.2.1 hal
      have := fit_sum h2.2.1 hbl
      omega)
    have HEQ := Lib.hid (gaps_alt (a := a) h2.1)
    have HGL : Hid ((gapsOf a b).length ≤ 1000) := Lib.hid (by
      have := sumE_len [] (neg a ++ b)
      rw [List.length_append, neg_len] at this
      simp only [List.length_nil] at this
      unfold gapsOf; omega)
    clear h1 h2 k1 k2
    obtain ⟨T, hT⟩ : ∃ T, gapsOf a b = T := ⟨_, rfl⟩
    rw [hT] at HEQ HGL ⊢
    clear hT
    by_cases hbig : 4096 < sumA T
    · have HRC := Lib.hid (fun W (hW : Below w.heap.size w W) => rchanges_any a b T _ _ W (HA.out.stays entAt_stays hW) (HB.out.stays entAt_stays hW) HEQ.out HGL.out hal hbl HS.out)
      rw [if_pos hbig] at HRC ⊢
      clear hbig
      go_enter Tryd.func23, Tryd.ntmps23
      go_wp2_with fail
      refine (rtwo_any a b _ _ w HA.out HB.out).mono ?_
      rw [HE1.out]
      rintro e w2 ⟨rfl, hb2⟩
      go_wp2_with fail
      refine (HRC.out w2 hb2).mono ?_
      rintro e w3 ⟨v3, rfl, hv3, hb3⟩
      obtain ⟨A3, c3, rfl⟩ := sl_len hv3 rfl
      clear hv3
      go_wp2_with fail
      go_ret2
      exact ⟨_, rfl, Sl.nil _ _ _ _ _ (Nat.zero_le _), bel_tr hb2 hb3⟩
    · have HRC := Lib.hid (fun W (hW : Below w.heap.size w W) => rchanges_any a b T _ _ W (HA.out.stays entAt_stays hW) (HB.out.stays entAt_stays hW) HEQ.out HGL.out hal hbl HS.out)
      rw [if_neg hbig] at HRC ⊢
      clear hbig
      go_enter Tryd.func23, Tryd.ntmps23
      go_wp2_with fail
      refine (rtwo_any a b _ _ w HA.out HB.out).mono ?_
      rw [HE1.out]
      rintro e w2 ⟨rfl, hb2⟩
      go_wp2_with fail
      refine (HRC.out w2 hb2).mono ?_
      rintro e w3 ⟨v3, rfl, hv3, hb3⟩
      have HV3 := Lib.hid hv3
      obtain ⟨A3, c3, rfl⟩ := sl_len hv3 rfl
      clear hv3
      go_wp2_with fail
      go_ret2
      exact ⟨_, rfl, HV3.out, bel_tr hb2 hb3⟩
  · rw [if_pos h0]
    have h0' : (e1 != 0) = true := by simpa using h0
    go_enter Tryd.func23, Tryd.ntmps23
    go_wp2_with fail
    refine (rtwo_any a b _ _ w HA.out HB.out).mono ?_
    rw [HE1.out]
    rintro e w2 ⟨rfl, hb2⟩
    go_wp2_with fail
    go_ret2
    exact ⟨_, rfl, Sl.nil _ _ _ _ _ (Nat.zero_le _), hb2⟩

theorem mat_mean {w : World} {v : Value} {bs : List Bnd} (hv : IsBnds w v bs) : Means MatAt 1 w [v] [bs] := by
  refine ⟨rfl, by simp [sl_oneCell hv], fun W b o hb hc k x hk => ?_⟩
  cases k with
  | zero => simp at hk; subst hk; exact ⟨v, hv.stays bndAt_stays hb, by simpa using hc 0 _ rfl⟩
  | succ k => simp at hk
set_option maxRecDepth 100000 in
set_option maxHeartbeats 2000000 in
theorem rstanding_any (l : List Ety) (q : Int) (v : Value) (w : World) (hl : IsEnts w v l) (hl100 : l.length ≤ 100) : Calls Tryd.prog 27 #[v, .int .i64 q] w (MatRet w (standR l q)) := by
  have HA := Lib.hid hl
  obtain ⟨A, c, rfl, h1, h2, hat⟩ := hl
  have hn := len_i64 h1 h2
  have HL := Lib.hid hat
  obtain ⟨j0, hj0, hy0, hy1, hy2⟩ := info_parts info_mat
  unfold standR
  obtain ⟨e1, he1⟩ : ∃ e, ledErr l = e := ⟨_, rfl⟩
  have HE1 := Lib.hid he1
  rw [he1]
  obtain ⟨qb, hqb⟩ : ∃ b, qOk q = b := ⟨_, rfl⟩
  have HQ := Lib.hid hqb
  rw [hqb]
  clear he1 hqb hat h1 h2
  by_cases h0 : e1 = 0
  case neg =>
    rw [if_pos h0]
    have h0' : (e1 != 0) = true := by simpa using h0
    go_enter Tryd.func27, Tryd.ntmps27
    go_wp2_with fail
    refine (rlcheck_any l _ w HA.out).mono ?_
    rw [HE1.out]
    rintro e w2 ⟨rfl, hb2⟩
    go_wp2_with fail
    go_ret2
    exact ⟨_, rfl, Sl.nil _ _ _ _ _ (Nat.zero_le _), hb2⟩
  subst h0
  rw [if_neg (by simp)]
  cases qb with
  | false =>
    go_enter Tryd.func27, Tryd.ntmps27
    go_wp2_with fail
    refine (rlcheck_any l _ w HA.out).mono ?_
    rw [HE1.out]
    rintro e w2 ⟨rfl, hb2⟩
    go_wp2_with (go_at_call 54; refine (rquery_any _ _).mono ?_; rw [HQ.out]; rintro e w' ⟨rfl, rfl⟩)
    go_ret2
    exact ⟨_, rfl, Sl.nil _ _ _ _ _ (Nat.zero_le _), hb2⟩
  | true =>
  rw [if_neg (by simp)]
  obtain ⟨R, hR⟩ : ∃ R, (l.filter (stands q)).map (·.bs) = R := ⟨_, rfl⟩
  rw [hR]
  have HRR := Lib.hid hR
  clear hR
  go_enter Tryd.func27, Tryd.ntmps27
  go_wp2_with fail
  refine (rlcheck_any l _ w HA.out).mono ?_
  rw [HE1.out]
  rintro e w2 ⟨rfl, hb2⟩
  go_wp2_with (go_at_call 54; refine (rquery_any _ _).mono ?_; rw [HQ.out]; rintro e w' ⟨rfl, rfl⟩)
  go_loopw [7, 8] (fun av i wr => ∃ (k : Nat) (o : List (List Bnd)) (xs : List Value), k ≤ l.length ∧ i = .int .i64 k ∧ o.length ≤ k ∧ Hid (o = ((l.take k).filter (stands q)).map (·.bs) ∧ wr.ownsRow w.heap.size 34 1 av o.length xs ∧ Means MatAt 1 w xs o ∧ Below w.heap.size w wr)) (fun _ i _ => l.length - (intOf i).toNat)
  case atStart => exact ⟨0, [], [], Nat.zero_le _, rfl, by simp, Lib.hid ⟨rfl, ⟨by simp, .inl ⟨rfl, rfl⟩⟩, Means.nil, hb2⟩⟩
  case round =>
    obtain ⟨k, o0, xs, hk, rfl, hol, hI⟩ := hrel
    have hbr := hI.out.2.2.2
    by_cases hlt : k < l.length
    · have hk' : (k : Int) < (l.length : Int) := by omega
      obtain ⟨b, o, rfl, v', hv', c0, c1, c2⟩ := HL.out k l[k] (List.getElem?_eq_getElem hlt)
      replace c0 := cell_stays hbr c0
      replace c1 := cell_stays hbr c1
      replace c2 := cell_stays hbr c2
      have hget := Lib.hid (List.getElem?_eq_getElem hlt)
      obtain ⟨x, hx⟩ : ∃ x, x = l[k] := ⟨_, rfl⟩
      rw [← hx] at hget c0 c2 hv'
      have HV := Lib.hid hv'
      obtain ⟨A', c', rfl, -⟩ := hv'
      clear hx
      by_cases hs : stands q x = true
      · have hs1 : x.q = q ∧ 0 < x.n := by simpa [stands] using hs
        have g1 : (x.q == q) = true := by simpa using hs1.1
        have g2 : 0 < x.n := hs1.2
        have HS := Lib.hid hs
        have hsz := hbr.size
        clear hs hs1
        go_wp2_with (at_builtin; refine wpList_app _ rfl (.tmp 38) (.tmp 44) 52 rfl w.heap.size 34 j0 _ 1 24 Tryd.underlying52 hj0 hy0 hy1 hy2 rfl (by decide) u7 o0.length xs rfl (ownsRow_below hI.out.2.1 (bel_one _ _)) (some ⟨wr.heap.size, 0, none⟩) 1 1 [.slice A' x.bs.length c'] rfl (src_new' _ [.slice A' x.bs.length c'] _ 1 1 _ (by simp) rfl (by simp [Value.oneCell'])) (by unfold maxLen; omega) (by omega) (by simp; omega) ?_; intro v7 w7 hown7 hg7 hloc7)
        have hb7 : Below w.heap.size w w7 := (bel_al hbr _).trans (grown_below hg7 (by simp; omega) (fun g h => (ownsRow_lt hI.out.2.1 h).1))
        have HO7 := Lib.hid hown7
        clear hown7 hg7 hloc7
        go_wp2_with fail
        go_roundw
        case rel =>
          refine ⟨k + 1, o0 ++ [x.bs], xs ++ [.slice A' x.bs.length c'], by omega, by go_num, by simp; omega, Lib.hid ⟨?_, by simpa using HO7.out, hI.out.2.2.1.app (mat_mean HV.out), hb7⟩⟩
          rw [hI.out.1, take_snoc' hget.out, List.filter_append, List.filter_cons_of_pos (by simpa using HS.out)]
          simp
        case measure => simp [intOf]; omega
      · have hsf : stands q x = false := by simpa using hs
        have HS := Lib.hid hsf
        clear hs
        by_cases hq : x.q = q
        · have g1 : (x.q == q) = true := by simpa using hq
          have g2 : ¬ 0 < x.n := by simpa [stands, hq] using hsf
          clear hsf
          go_wp2_with fail
          go_roundw
          case rel =>
            refine ⟨k + 1, o0, xs, by omega, by go_num, by omega, Lib.hid ⟨?_, hI.out.2.1, hI.out.2.2.1, hbr⟩⟩
            rw [hI.out.1, take_snoc' hget.out, List.filter_append, List.filter_cons_of_neg (by simpa using HS.out)]
            simp
          case measure => simp [intOf]; omega
        · have g1 : (x.q == q) = false := by simpa using hq
          clear hsf
          go_wp2_with fail
          go_roundw
          case rel =>
            refine ⟨k + 1, o0, xs, by omega, by go_num, by omega, Lib.hid ⟨?_, hI.out.2.1, hI.out.2.2.1, hbr⟩⟩
            rw [hI.out.1, take_snoc' hget.out, List.filter_append, List.filter_cons_of_neg (by simpa using HS.out)]
            simp
          case measure => simp [intOf]; omega
    · have hk' : ¬ (k : Int) < (l.length : Int) := by omega
      have hke : k = l.length := by omega
      have hI' := hI.out
      rw [hke, List.take_length] at hI'
      have hm := sl_of_means hI'.2.2.1 hbr hI'.2.1
      rw [hI'.1, HRR.out] at hm
      have HM := Lib.hid hm
      obtain ⟨A7, c7, rfl, -⟩ := hm
      clear hI' hke
      go_wp2_with fail
      go_ret2
      exact ⟨_, rfl, HM.out, hbr⟩
end Go.Proofs.YtlofjcicpkfcdaaDoor
