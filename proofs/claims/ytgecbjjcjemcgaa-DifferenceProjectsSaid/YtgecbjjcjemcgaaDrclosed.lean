/- Feasible, Closed and closed of the reference. -/
import Derived.Test.YtgecbjjcjemcgaaDclosed
import Derived.Test.YtgecbjjcjemcgaaDrtight
namespace Go.Proofs.Ytgecbjjcjemcgaa
open Go.RowKit

theorem tight_of_row {n : Nat} {bs : List Ed} {x y : Nat} {t : Bool} {d : Int} (h1 : gb (truns n bs y n).h x = t) (h2 : gd (truns n bs y n).d x = d) : tight n bs x y = if t = true then some d else none := by
  unfold tight; rw [h1, h2]

set_option maxRecDepth 100000 in
set_option maxHeartbeats 2000000 in
theorem rfeasible_any (n : Nat) (h16 : 1 ≤ n ∧ n ≤ 6) (bs : List Bd) (v : Value) (w : World) (hl : IsBds w v bs) (hg : good n bs) (hlen : bs.length ≤ 256) :
    Calls Try.prog 49 #[zoneV n v] w fun e W => e = .returned (.bool (feas n (bs.map ed))) ∧ Below w.heap.size w W := by
  unfold zoneV
  have HL := Lib.hid hl
  have HG := Lib.hid hg
  obtain ⟨A, c, rfl, -, -, -⟩ := hl
  clear hg
  go_enter Try.func49, Try.ntmps49
  go_wp2_with (go_at_call 72; refine (rgreatest_any n h16 bs _ _ (HL.out.stays bdAt_stays (bel_one _ _)) HG.out hlen).mono ?_; rintro e w1 ⟨v1, rfl, hq1, hb1⟩; have hb2 := bel_tr (bel_one _ _) hb1; clear hb1 hq1)
  go_ret
  exact ⟨rfl, hb2⟩

set_option maxRecDepth 100000 in
set_option maxHeartbeats 4000000 in
theorem rClosed_any (n : Nat) (h16 : 1 ≤ n ∧ n ≤ 6) (bs : List Bd) (v : Value) (w : World) (hl : IsBds w v bs) (hg : good n bs) (hlen : bs.length ≤ 256) :
    Calls Try.prog 73 #[zoneV n v] w fun e W => ∃ v', e = .returned v' ∧ IsBds W v' (entE (tight n (bs.map ed)) n n) ∧ Below w.heap.size w W := by
  unfold zoneV
  have HL := Lib.hid hl
  have HG := Lib.hid hg
  obtain ⟨A, c, rfl, -, -, -⟩ := hl
  obtain ⟨T, hT⟩ : ∃ T, T = tight n (bs.map ed) := ⟨_, rfl⟩
  rw [← hT]
  have HT := Lib.hid hT
  obtain ⟨hn1, hn6⟩ := h16
  obtain ⟨j0, hj0, hy0, hy1, hy2⟩ := info_parts info_bd
  clear hg hT
  go_enter Try.func73, Try.ntmps73
  go_wp2_with fail
  refine wp_gen ?_
  intro W0 hW0
  have z0 : W0.cell? ⟨w.heap.size, 0, none⟩ = some (.int .i64 (n : Int)) := by rw [hW0]; exact (new_cells (Below.refl _ _)).1 0
  have z1 : W0.cell? ⟨w.heap.size, 1, none⟩ = some (.slice A bs.length c) := by rw [hW0]; exact (new_cells (Below.refl _ _)).1 1
  have HB0 : Hid (Below w.heap.size w W0) := Lib.hid (by rw [hW0]; exact bel_one _ _)
  clear hW0
  go_loopw [3, 4] (fun v i wr => ∃ x : Nat, x ≤ n ∧ i = .int .i64 x ∧ Hid (wr.ownsRow W0.heap.size 56 3 v (entE T n x).length (bdc (entE T n x)) ∧ Below W0.heap.size W0 wr)) (fun _ i _ => n - (intOf i).toNat)
  case atStart => exact ⟨0, Nat.zero_le _, rfl, ⟨rfl, .inl ⟨rfl, rfl⟩⟩, Below.refl _ _⟩
  case round =>
    obtain ⟨x, hx, rfl, HI⟩ := hrel
    have q0 := cell_stays HI.out.2 z0
    by_cases hlx : x < n
    · have hlx' : (x : Int) < (n : Int) := by omega
      go_wp2_with fail
      go_loopw [3, 5] (fun v i wr => ∃ y : Nat, y ≤ n ∧ i = .int .i64 y ∧ Hid (wr.ownsRow W0.heap.size 56 3 v (entE T n x ++ rowE T x y).length (bdc (entE T n x ++ rowE T x y)) ∧ Below W0.heap.size W0 wr)) (fun _ i _ => n - (intOf i).toNat)
      case atStart => exact ⟨0, Nat.zero_le _, rfl, by simp only [rowE, List.append_nil]; exact HI⟩
      case round =>
        obtain ⟨y, hy, rfl, HJ⟩ := hrel
        replace q0 := cell_stays HJ.out.2 z0
        have q1 := cell_stays HJ.out.2 z1
        by_cases hly : y < n
        · have hly' : (y : Int) < (n : Int) := by omega
          have hll : (entE T n x ++ rowE T x y).length ≤ 64 := by
            have h1 := entE_len T n x
            have h2 := rowE_len T x y
            have h3 : x * n ≤ 6 * 6 := Nat.mul_le_mul (by omega) hn6
            rw [List.length_append]; omega
          obtain ⟨t, ht⟩ : ∃ t, gb (truns n (bs.map ed) y n).h x = t := ⟨_, rfl⟩
          obtain ⟨d, hd⟩ : ∃ d, gd (truns n (bs.map ed) y n).d x = d := ⟨_, rfl⟩
          have HTD : Hid (gb (truns n (bs.map ed) y n).h x = t ∧ gd (truns n (bs.map ed) y n).d x = d) := Lib.hid ⟨ht, hd⟩
          have HTV : Hid (T x y = if t = true then some d else none) := Lib.hid (by rw [HT.out]; exact tight_of_row ht hd)
          clear ht hd
          cases t with
          | false =>
            have HR : Hid (rowE T x (y + 1) = rowE T x y) := Lib.hid (by simp only [rowE]; rw [HTV.out]; simp)
            go_wp2_with (go_at_call 50; refine (rtightest_any n ⟨hn1, hn6⟩ bs _ x y hlx hly _ (HL.out.stays bdAt_stays (bel_tr HB0.out HJ.out.2)) HG.out hlen).mono ?_; rw [HTD.out.1, HTD.out.2]; rintro e w5 ⟨rfl, hb5⟩)
            go_roundw
            case rel => exact ⟨y + 1, by omega, by go_num, by rw [HR.out]; exact Lib.hid ⟨ownsRow_below HJ.out.1 hb5, bel_tr HJ.out.2 hb5⟩⟩
            case measure => simp [intOf]; omega
          | true =>
            by_cases hxy : x = y
            · have g1 : ((x : Int) != (y : Int)) = false := by rw [hxy]; simp
              have HR : Hid (rowE T x (y + 1) = rowE T x y) := Lib.hid (by simp only [rowE]; rw [if_pos hxy, List.append_nil])
              clear hxy
              go_wp2_with (go_at_call 50; refine (rtightest_any n ⟨hn1, hn6⟩ bs _ x y hlx hly _ (HL.out.stays bdAt_stays (bel_tr HB0.out HJ.out.2)) HG.out hlen).mono ?_; rw [HTD.out.1, HTD.out.2]; rintro e w5 ⟨rfl, hb5⟩)
              go_roundw
              case rel => exact ⟨y + 1, by omega, by go_num, by rw [HR.out]; exact Lib.hid ⟨ownsRow_below HJ.out.1 hb5, bel_tr HJ.out.2 hb5⟩⟩
              case measure => simp [intOf]; omega
            · have g1 : ((x : Int) != (y : Int)) = true := by rw [bne_iff_ne]; omega
              have HR : Hid (rowE T x (y + 1) = rowE T x y ++ [⟨x, y, d⟩]) := Lib.hid (by simp only [rowE]; rw [if_neg hxy, HTV.out]; rfl)
              clear hxy
              obtain ⟨E, hE⟩ : ∃ E, E = entE T n x ++ rowE T x y := ⟨_, rfl⟩
              rw [← hE] at HJ hll
              have HE := Lib.hid hE
              clear hE
              obtain ⟨A4, c4, hA4⟩ := slice_own HJ.out.1
              subst hA4
              go_wp2_with (first
                | (go_at_call 50; refine (rtightest_any n ⟨hn1, hn6⟩ bs _ x y hlx hly _ (HL.out.stays bdAt_stays (bel_tr HB0.out HJ.out.2)) HG.out hlen).mono ?_; rw [HTD.out.1, HTD.out.2]; rintro e w5 ⟨rfl, hb5⟩; have HO5 := Lib.hid (ownsRow_below HJ.out.1 hb5); have HB5 := Lib.hid (bel_tr HJ.out.2 hb5); clear hb5)
                | (at_builtin; (refine wpList_app _ rfl (.tmp 33) (.tmp 38) 22 rfl W0.heap.size 56 j0 _ 3 24 Try.underlying22 hj0 hy0 hy1 hy2 rfl (by decide) (.slice A4 E.length c4) E.length (bdc E) rfl (ownsRow_below HO5.out (bel_one _ _)) (some ⟨w5.heap.size, 0, none⟩) 1 1 [.int .i64 (x : Int), .int .i64 (y : Int), .int .i64 d] rfl (src_new w5 [.int .i64 (x : Int), .int .i64 (y : Int), .int .i64 d] _ 1 3 rfl (by simp [Value.oneCell'])) (by unfold maxLen; omega) (by omega) (by have := HB5.out.size; simp; omega) ?_; intro v6 w6 hown6 hg6 hloc6; have HO6 := Lib.hid hown6; have HB6 : Hid (Below W0.heap.size W0 w6) := Lib.hid ((bel_al HB5.out _).trans (grown_below hg6 (by have := HB5.out.size; simp; omega) (fun g h => (ownsRow_lt HO5.out h).1))); clear hown6 hg6 hloc6)))
              go_roundw
              case rel => exact ⟨y + 1, by omega, by go_num, by rw [HR.out, ← List.append_assoc, ← HE.out]; exact Lib.hid ⟨by rw [List.length_append, bdc_app, bdc_one]; exact HO6.out, HB6.out⟩⟩
              case measure => simp [intOf]; omega
        · obtain rfl : y = n := by omega
          go_wp2_with fail
          go_roundw
          case rel => exact ⟨x + 1, by omega, by go_num, HJ⟩
          case measure => simp [intOf]; omega
    · obtain rfl : x = n := by omega
      obtain ⟨A5, c5, hA5⟩ := slice_own HI.out.1
      subst hA5
      go_wp2_with fail
      go_ret
      exact ⟨_, rfl, sl_of_means (bds_mean W0 _) HI.out.2 HI.out.1, bel_tr HB0.out HI.out.2⟩

set_option maxRecDepth 100000 in
set_option maxHeartbeats 4000000 in
theorem rclosed_any (n : Nat) (h16 : 1 ≤ n ∧ n ≤ 6) (bs : List Bd) (v : Value) (w : World) (hl : IsBds w v bs) (hg : good n bs) (hlen : bs.length ≤ 256) :
    Calls Try.prog 46 #[zoneV n v] w (BdsRet w (closedR n bs)) := by
  unfold zoneV
  have HL := Lib.hid hl
  have HG := Lib.hid hg
  obtain ⟨A, c, rfl, -, -, -⟩ := hl
  clear hg
  obtain ⟨f, hf⟩ : ∃ f, feas n (bs.map ed) = f := ⟨_, rfl⟩
  have HF := Lib.hid hf
  clear hf
  cases f with
  | false =>
    have HR := Lib.hid (closedR_no HF.out)
    go_enter Try.func46, Try.ntmps46
    go_wp2_with (go_at_call 49; refine (rfeasible_any n h16 bs _ _ (HL.out.stays bdAt_stays (bel_one _ _)) HG.out hlen).mono ?_; rw [HF.out]; rintro e w1 ⟨rfl, hb1⟩)
    go_ret2
    rw [HR.out]
    exact ⟨_, rfl, Sl.nil _ _ _ _ _ (Nat.zero_le _), bel_tr (bel_one _ _) hb1⟩
  | true =>
    have HCR := Lib.hid (closedR_yes HF.out h16.2)
    obtain ⟨l, hl⟩ : ∃ l, l = entE (tight n (bs.map ed)) n n := ⟨_, rfl⟩
    rw [← hl] at HCR
    have hll : l.length ≤ 36 := by
      have h1 := entE_len (tight n (bs.map ed)) n n
      have h3 : n * n ≤ 6 * 6 := Nat.mul_le_mul h16.2 h16.2
      rw [hl]; omega
    have HLL := Lib.hid hl
    clear hl
    have h256 : ¬ (256 : Int) < (l.length : Int) := by omega
    go_enter Try.func46, Try.ntmps46
    go_wp2_with (first
      | (go_at_call 49; refine (rfeasible_any n h16 bs _ _ (HL.out.stays bdAt_stays (bel_one _ _)) HG.out hlen).mono ?_; rw [HF.out]; rintro e w1 ⟨rfl, hb1⟩; obtain ⟨hz, -⟩ := new_cells hb1; have hbw := bel_tr (bel_one _ _) hb1; have hsz : w.heap.size < w1.heap.size := by (have := hb1.size; simp at this; omega))
      | (go_at_call 73; refine (rClosed_any n h16 bs _ _ (HL.out.stays bdAt_stays hbw) HG.out hlen).mono ?_; rw [← HLL.out]; rintro e w2 ⟨v2, rfl, hq2, hb2⟩; have HQ2 := Lib.hid hq2; obtain ⟨A2, c2, rfl, -, -, hat⟩ := hq2; have HAT := Lib.hid hat; have HBW2 := Lib.hid (bel_tr hbw hb2); have hz2 := arr_keep hz hsz hb2; have z0 : w2.cell? ⟨w.heap.size, 0, none⟩ = some (.int .i64 (n : Int)) := hz2 0; clear hat hz2 hb2 hbw hsz hz hb1))
    go_loopw [5] (fun i wr => ∃ k : Nat, k ≤ l.length ∧ i = .int .i64 k ∧ Hid (bdsErr n (l.drop k) = bdsErr n l) ∧ Below w2.heap.size w2 wr) (fun i _ => l.length - (intOf i).toNat)
    case atStart => exact ⟨0, Nat.zero_le _, rfl, rfl, Below.refl _ _⟩
    case round =>
      obtain ⟨k, hk, rfl, hi, hb⟩ := hrel
      by_cases hlt : k < l.length
      · have hlt' : (k : Int) < (l.length : Int) := by omega
        obtain ⟨b, o, rfl, c0, c1, c2⟩ := HAT.out k l[k] (List.getElem?_eq_getElem hlt)
        replace c0 := cell_stays hb c0
        replace c1 := cell_stays hb c1
        replace c2 := cell_stays hb c2
        have x0 := cell_stays hb z0
        obtain ⟨en, hen⟩ : ∃ e, boundErr n l[k] = e := ⟨_, rfl⟩
        have HEN := Lib.hid hen
        clear hen
        by_cases h0 : en = 0
        · have g0 : (en != 0) = false := by simpa using h0
          have HH : Hid (boundErr n l[k] = 0) := Lib.hid (HEN.out.trans h0)
          clear h0
          go_wp2_with fail
          refine wp_region_F (fun W => W.cell? ⟨w.heap.size, 0, none⟩ = some (.int .i64 (n : Int)) ∧ W.cell? ⟨b, o + k * 3, none⟩ = some (.int .i64 l[k].x) ∧ W.cell? ⟨b, o + k * 3 + 1, none⟩ = some (.int .i64 l[k].y) ∧ W.cell? ⟨b, o + k * 3 + 2, none⟩ = some (.int .i64 l[k].most)) (by repeat (first | exact grows_cell _ _ _ | exact grows_true | refine grows_and ?_ ?_)) (by kernel_rfl) (by kernel_rfl) ?hF ?_; (case hF => (first | exact ⟨‹_›, ‹_›⟩ | (go_simp; done) | (simp [*]; done))); intro hne hxx; have hG : Hid (Grows (fun W => W.cell? ⟨w.heap.size, 0, none⟩ = some (.int .i64 (n : Int)) ∧ W.cell? ⟨b, o + k * 3, none⟩ = some (.int .i64 l[k].x) ∧ W.cell? ⟨b, o + k * 3 + 1, none⟩ = some (.int .i64 l[k].y) ∧ W.cell? ⟨b, o + k * 3 + 2, none⟩ = some (.int .i64 l[k].most))) := (by repeat (first | exact grows_cell _ _ _ | exact grows_true | refine grows_and ?_ ?_)); (repeat (go_big_quiet_step ((go_at_call 61; exact cls_callB hG.out (fun W _ => by have h := rbound_any n l[k] W; rw [HEN.out] at h; exact h))))); clear hG hxx hne; refine wpQuiet_nil ?_; rintro _ ⟨⟨w', hb', hF'⟩, rfl⟩
          clear hF'
          go_wp2_with fail
          go_roundw
          case rel => exact ⟨k + 1, by omega, by go_num, bdsErr_go n l k _ (List.getElem?_eq_getElem hlt) HH.out hi.out, bel_tr hb hb'⟩
          case measure => simp [intOf]; omega
        · have g0 : (en != 0) = true := by simpa using h0
          have HST := Lib.hid (bdsErr_stop n l k _ (List.getElem?_eq_getElem hlt) (by rw [HEN.out]; exact h0) hi.out)
          have HN0 := Lib.hid h0
          clear h0
          go_wp2_with fail
          refine wp_region_F (fun W => W.cell? ⟨w.heap.size, 0, none⟩ = some (.int .i64 (n : Int)) ∧ W.cell? ⟨b, o + k * 3, none⟩ = some (.int .i64 l[k].x) ∧ W.cell? ⟨b, o + k * 3 + 1, none⟩ = some (.int .i64 l[k].y) ∧ W.cell? ⟨b, o + k * 3 + 2, none⟩ = some (.int .i64 l[k].most)) (by repeat (first | exact grows_cell _ _ _ | exact grows_true | refine grows_and ?_ ?_)) (by kernel_rfl) (by kernel_rfl) ?hF ?_; (case hF => (first | exact ⟨‹_›, ‹_›⟩ | (go_simp; done) | (simp [*]; done))); intro hne hxx; have hG : Hid (Grows (fun W => W.cell? ⟨w.heap.size, 0, none⟩ = some (.int .i64 (n : Int)) ∧ W.cell? ⟨b, o + k * 3, none⟩ = some (.int .i64 l[k].x) ∧ W.cell? ⟨b, o + k * 3 + 1, none⟩ = some (.int .i64 l[k].y) ∧ W.cell? ⟨b, o + k * 3 + 2, none⟩ = some (.int .i64 l[k].most))) := (by repeat (first | exact grows_cell _ _ _ | exact grows_true | refine grows_and ?_ ?_)); (repeat (go_big_quiet_step ((go_at_call 61; exact cls_callB hG.out (fun W _ => by have h := rbound_any n l[k] W; rw [HEN.out] at h; exact h))))); clear hG hxx hne; refine wpQuiet_nil ?_; rintro _ ⟨⟨w', hb', hF'⟩, rfl⟩
          clear hF'
          go_wp2_with fail
          go_ret2
          rw [HCR.out, ← HST.out, HEN.out, if_neg HN0.out]
          exact ⟨_, rfl, Sl.nil _ _ _ _ _ (Nat.zero_le _), bel_tr (bel_tr HBW2.out hb) hb'⟩
      · obtain rfl : k = l.length := by omega
        have HEND : Hid (bdsErr n l = 0) := Lib.hid (by rw [← hi.out]; simp [bdsErr])
        go_wp2_with fail
        go_ret2
        rw [HCR.out, if_pos HEND.out]
        exact ⟨_, rfl, HQ2.out.stays bdAt_stays hb, bel_tr HBW2.out hb⟩
end Go.Proofs.Ytgecbjjcjemcgaa
