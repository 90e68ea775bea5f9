/- Solve, as the program and as the reference do it. -/
import Derived.Test.YtgecbjjcjemcgaaDsolve
import Derived.Test.YtgecbjjcjemcgaaDgreat
import Derived.Lib.LazyBuf
namespace Go.Proofs.Ytgecbjjcjemcgaa
open Go.RowKit

/-- the canonical model -/
def modelOf (d : List Int) : List Int := d.map fun x => x - gd d 0
theorem modelOf_length (d : List Int) : (modelOf d).length = d.length := by simp [modelOf]
theorem modelOf_get {d : List Int} {k : Nat} (h : k < d.length) : (modelOf d)[k]? = some (gd d k - gd d 0) := by unfold modelOf; rw [List.getElem?_map, gd_at h]; rfl
/-- the first k values are turned -/
def partM (d : List Int) (k : Nat) : List Int := (modelOf d).take k ++ d.drop k
theorem partM_zero (d : List Int) : partM d 0 = d := by simp [partM]
theorem partM_end (d : List Int) : partM d d.length = modelOf d := by unfold partM; rw [List.take_of_length_le (by rw [modelOf_length]; exact Nat.le_refl _), List.drop_length, List.append_nil]
theorem partM_length (d : List Int) (k : Nat) (h : k ≤ d.length) : (partM d k).length = d.length := by simp [partM, modelOf]; omega
theorem partM_gd {d : List Int} {k : Nat} (h : k < d.length) : gd (partM d k) k = gd d k := by
  apply gd_get
  unfold partM
  have hl : ((modelOf d).take k).length = k := by simp [modelOf]; omega
  rw [List.getElem?_append_right (by omega), hl, Nat.sub_self, List.getElem?_drop, Nat.add_zero]
  exact gd_at h
theorem partM_succ {d : List Int} {k : Nat} (h : k < d.length) : (partM d k).set k (gd d k - gd d 0) = partM d (k + 1) := by
  unfold partM
  have hl : ((modelOf d).take k).length = k := by simp [modelOf]; omega
  rw [take_snoc' (modelOf_get h), List.set_append_right _ _ (by omega), hl, Nat.sub_self, List.drop_eq_getElem_cons h]
  simp only [List.set_cons_zero, List.append_assoc, List.singleton_append]

/-- what Solve returns -/
def SolvedRet (w : World) (n : Int) (bs : List Bd) (e : Ending) (W : World) : Prop := Below w.heap.size w W ∧
  ((zoneErr n bs ≠ 0 ∧ e = .returned (.tuple #[.bool false, .slice none 0 0, .slice none 0 0, .int .i64 (zoneErr n bs)])) ∨
   (zoneErr n bs = 0 ∧ feas n.toNat (bs.map ed) = true ∧ ∃ v, e = .returned (.tuple #[.bool true, v, .slice none 0 0, .int .i64 0]) ∧ IsInts W v (modelOf (sums n.toNat (bs.map ed)))) ∨
   (zoneErr n bs = 0 ∧ feas n.toNat (bs.map ed) = false ∧ ∃ L A c, e = .returned (.tuple #[.bool false, .slice none 0 0, .slice (some A) L c, .int .i64 0]) ∧ Cyc n.toNat (bs.map ed) (runs n.toNat (bs.map ed) (n.toNat + 1)).l (cycFrom n.toNat (bs.map ed)) L ∧ cycSum (bs.map ed) (runs n.toNat (bs.map ed) (n.toNat + 1)).l (cycFrom n.toNat (bs.map ed)) L < 0 ∧
     IsInts W (.slice (some A) L c) (cycL (bs.map ed) (runs n.toNat (bs.map ed) (n.toNat + 1)).l (cycFrom n.toNat (bs.map ed)) L)))

theorem sums_len (n : Nat) (bs : List Ed) : (sums n bs).length = n := (runs_len (n + 1)).1
theorem sums_low {n : Nat} {bs : List Bd} (hg : good n bs) : low ((n + 1) * bs.length) (sums n (bs.map ed)) := runs_low hg (n + 1)

set_option maxRecDepth 100000 in
set_option maxHeartbeats 2000000 in
theorem zsolve_any (n : Int) (hn6 : n ≤ 6) (bs : List Bd) (v : Value) (w : World) (hl : IsBds w v bs) :
    Calls Try.prog 14 #[zoneV n v] w (SolvedRet w n bs) := by
  unfold zoneV
  have HL := Lib.hid hl
  obtain ⟨A, c, rfl, -, -, -⟩ := hl
  obtain ⟨e0, he0⟩ : ∃ e, zoneErr n bs = e := ⟨_, rfl⟩
  have HE0 := Lib.hid he0
  by_cases h0 : e0 = 0
  · have g0 : (e0 != 0) = false := by simpa using h0
    obtain ⟨hn1, -, hlen, hgood⟩ := good_of (he0.trans h0)
    have HZ : Hid (zoneErr n bs = 0) := Lib.hid (he0.trans h0)
    obtain ⟨N, rfl⟩ := Int.eq_ofNat_of_zero_le (by omega : 0 ≤ n)
    have HG : Hid (good N bs) := Lib.hid (by rw [Int.toNat_natCast] at hgood; exact hgood)
    clear he0 h0 hgood
    have hs0 := fun W (a : Option Addr) l c => run_neq_slice_nil (P := Try.prog) W 27 3 a l c Try.underlying27
    go_enter Try.func14, Try.ntmps14
    go_wp2_with (go_at_call 32; refine (zcheck_any _ bs _ _ (HL.out.stays bdAt_stays (bel_one _ _))).mono ?_; rw [HE0.out]; rintro e w1 ⟨rfl, hb1⟩; obtain ⟨hz, -⟩ := new_cells hb1; have hbw1 := bel_tr (bel_one _ _) hb1)
    refine (solve_any N ⟨by omega, by omega⟩ bs _ _ (HL.out.stays bdAt_stays hbw1) HG.out hlen).mono ?_
    rintro e w2 ⟨hb2, hcase⟩
    have HB2 := Lib.hid (bel_tr hbw1 hb2)
    have hgw := hbw1.size
    clear hz hb1 hbw1 hb2
    rcases hcase with ⟨hf, g, rfl, hrow, hge⟩ | ⟨hf, L, A', c', rfl, hcyc, hsum, hin⟩
    · have HF := Lib.hid hf
      have HROW := Lib.hid hrow
      have hlow := sums_low HG.out
      have hmul : (N + 1) * bs.length ≤ 7 * 256 := Nat.mul_le_mul (by omega) hlen
      have hdl : (sums N (bs.map ed)).length = N := sums_len N _
      obtain ⟨D, hD⟩ : ∃ D, D = sums N (bs.map ed) := ⟨_, rfl⟩
      rw [← hD] at HROW hlow hdl
      have HD := Lib.hid hD
      have r0 := HROW.out.cell (i := 0) (by omega)
      have hl0 := hlow 0
      obtain ⟨d0, hd0⟩ : ∃ a, a = gd D 0 := ⟨_, rfl⟩
      have HD0 := Lib.hid hd0
      rw [← hd0] at r0 hl0
      have HLOW := Lib.hid hlow
      clear hf hrow hlow hD hd0
      have hN0 : (0 : Int) < (N : Int) := by omega
      have hN0' : 0 < N := by omega
      go_wp2_with fail
      go_loopw [29] (fun i wr => ∃ k : Nat, k ≤ N ∧ i = .int .i64 k ∧ Hid (Row wr g (partM D k) ∧ Below w.heap.size w wr)) (fun i _ => N - (intOf i).toNat)
      case atStart => exact ⟨0, Nat.zero_le _, rfl, by rw [partM_zero]; exact HROW.out, HB2.out⟩
      case round =>
        obtain ⟨k, hk, rfl, HI⟩ := hrel
        by_cases hlt : k < N
        · have hlt' : (k : Int) < (N : Int) := by omega
          have rk := HI.out.1.cell (i := k) (by rw [partM_length D k (by omega)]; omega)
          rw [partM_gd (by omega)] at rk
          have f1 := HI.out.1.frozen k
          have hlk := HLOW.out k
          have HP := Lib.hid (partM_succ (d := D) (k := k) (by omega))
          obtain ⟨dk, hdk⟩ : ∃ a, a = gd D k := ⟨_, rfl⟩
          have HDK := Lib.hid hdk
          rw [← hdk] at rk hlk
          clear hdk
          have hw : IntKind.i64.wrap (dk - d0) = dk - d0 := IntWalk.i64_in _ (by omega)
          go_wp2_with fail
          go_roundw
          case rel => exact ⟨k + 1, by omega, by go_num, Lib.hid ⟨by have h := HI.out.1.set k (dk - d0); rw [HDK.out, HD0.out, HP.out] at h; rw [HDK.out, HD0.out]; exact h, bel_set HI.out.2 (by omega) _⟩⟩
          case measure => simp [intOf]; omega
        · obtain rfl : k = N := by omega
          go_wp2_with fail
          refine bodyPost_ret (v := .tuple #[.bool true, .slice (some ⟨g, 0, none⟩) k k, .slice none 0 0, .int .i64 0]) (by simp [results, Try.results14, go_sem]) rfl ?_
          have hr := HI.out.1
          rw [← hdl, partM_end] at hr
          have hin := hr.ints (c := k) (by rw [modelOf_length]; omega) (by unfold maxLen; omega)
          rw [modelOf_length, hdl] at hin
          exact ⟨HI.out.2, .inr (.inl ⟨HZ.out, HF.out, _, rfl, by rw [Int.toNat_natCast, ← HD.out]; exact hin⟩)⟩
    · have HR : Hid (SolvedRet w N bs (.returned (.tuple #[.bool false, .slice none 0 0, .slice (some A') L c', .int .i64 0])) w2) := Lib.hid ⟨HB2.out, .inr (.inr ⟨HZ.out, hf, L, A', c', rfl, hcyc, hsum, hin⟩)⟩
      clear hf hcyc hsum hin
      go_wp2_with fail
      exact bodyPost_ret (v := .tuple #[.bool false, .slice none 0 0, .slice (some A') L c', .int .i64 0]) (by simp [results, Try.results14, go_sem]) rfl HR.out
  · have g0 : (e0 != 0) = true := by simpa using h0
    have HZ : Hid (zoneErr n bs ≠ 0) := Lib.hid (by rw [he0]; exact h0)
    clear he0 h0
    go_enter Try.func14, Try.ntmps14
    go_wp2_with (go_at_call 32; refine (zcheck_any n bs _ _ (HL.out.stays bdAt_stays (bel_one _ _))).mono ?_; rw [HE0.out]; rintro e w1 ⟨rfl, hb1⟩)
    exact bodyPost_ret (v := .tuple #[.bool false, .slice none 0 0, .slice none 0 0, .int .i64 e0]) (by simp [results, Try.results14, go_sem]) rfl ⟨bel_tr (bel_one _ _) hb1, .inl ⟨HZ.out, by rw [HE0.out]⟩⟩

/-- the verdict, the model and the error of the reference -/
def rsolveR (n : Int) (bs : List Bd) : Bool × List Int × Int :=
  if zoneErr n bs = 0 then (if feas n.toNat (bs.map ed) = true then (true, modelOf (sums n.toNat (bs.map ed)), 0) else (false, [], 0)) else (false, [], zoneErr n bs)

theorem greatR_yes {n : Nat} {bs : List Ed} (h : feas n bs = true) : greatR n bs = sums n bs := by unfold greatR; rw [if_pos h]

set_option maxRecDepth 100000 in
set_option maxHeartbeats 2000000 in
theorem rmodel_any (n : Nat) (h16 : 1 ≤ n ∧ n ≤ 6) (bs : List Bd) (v : Value) (w : World) (hl : IsBds w v bs) (hg : good n bs) (hlen : bs.length ≤ 256) :
    Calls Try.prog 43 #[zoneV n v] w (IntsOk w (if feas n (bs.map ed) = true then modelOf (sums n (bs.map ed)) else []) (feas n (bs.map ed))) := by
  unfold zoneV
  have HL := Lib.hid hl
  have HG := Lib.hid hg
  obtain ⟨A, c, rfl, -, -, -⟩ := hl
  have hlow := sums_low hg
  have hmul : (n + 1) * bs.length ≤ 7 * 256 := Nat.mul_le_mul (by omega) hlen
  clear hg
  obtain ⟨f, hf⟩ : ∃ f, feas n (bs.map ed) = f := ⟨_, rfl⟩
  have HF := Lib.hid hf
  cases f with
  | false =>
    rw [HF.out]
    clear hf hlow
    go_enter Try.func43, Try.ntmps43
    go_wp2_with (go_at_call 72; refine (rgreatest_any n h16 bs _ _ (HL.out.stays bdAt_stays (bel_one _ _)) HG.out hlen).mono ?_; rw [HF.out]; rintro e w1 ⟨v1, rfl, hq1, hb1⟩)
    go_ret2
    exact ⟨_, rfl, Sl.nil _ _ _ _ _ (Nat.zero_le _), bel_tr (bel_one _ _) hb1⟩
  | true =>
    obtain ⟨D, hD⟩ : ∃ D, D = sums n (bs.map ed) := ⟨_, rfl⟩
    have HGR : Hid (greatR n (bs.map ed) = D) := Lib.hid (by rw [greatR_yes hf, hD])
    have hdl : D.length = n := by rw [hD]; exact sums_len n _
    rw [← hD] at hlow ⊢
    have HLOW := Lib.hid hlow
    have hl0 := hlow 0
    rw [HF.out]
    clear hf hlow hD
    obtain ⟨j0, hj0, hy0, hy1, hy2⟩ := info_parts info_int
    have hn0' : 0 < D.length := by omega
    have hn0 : (0 : Int) < (D.length : Int) := by omega
    have hnn : 0 < n := by omega
    have hnn' : (0 : Int) < (n : Int) := by omega
    go_enter Try.func43, Try.ntmps43
    go_wp2_with (go_at_call 72; refine (rgreatest_any n h16 bs _ _ (HL.out.stays bdAt_stays (bel_one _ _)) HG.out hlen).mono ?_; rw [HF.out, HGR.out]; rintro e w1 ⟨v1, rfl, hq1, hb1⟩; have HQ1 := Lib.hid hq1; obtain ⟨A1, c1, rfl, hc1, hc1', hat1⟩ := hq1; obtain ⟨g1, o1, rfl, x0⟩ := hat1 0 (gd D 0) (gd_at hn0'); simp only [Nat.zero_mul, Nat.add_zero] at x0; have HAT := Lib.hid hat1; clear hat1)
    have HB1 := Lib.hid (bel_tr (bel_one _ _) hb1)
    have hx0 : w1.cell? ⟨g1, o1, none⟩ = some (.int .i64 (gd D 0)) := x0
    obtain ⟨d0, hd0⟩ : ∃ a, a = gd D 0 := ⟨_, rfl⟩
    have HD0 := Lib.hid hd0
    rw [← hd0] at hx0 hl0
    clear hb1 x0 hd0
    go_loopw [6, 7] (fun v i wr => ∃ k : Nat, k ≤ D.length ∧ i = .int .i64 k ∧ Hid (wr.ownsRow w1.heap.size 3 1 v k (ints ((modelOf D).take k)) ∧ Below w1.heap.size w1 wr)) (fun _ i _ => D.length - (intOf i).toNat)
    case atStart => exact ⟨0, Nat.zero_le _, rfl, ⟨rfl, .inl ⟨rfl, rfl⟩⟩, Below.refl _ _⟩
    case round =>
      obtain ⟨k, hk, rfl, HI⟩ := hrel
      by_cases hlt : k < D.length
      · have hlt' : (k : Int) < (D.length : Int) := by omega
        obtain ⟨g1', o1', hA1, xk⟩ := HAT.out k (gd D k) (gd_at hlt)
        injection hA1 with hA1
        injection hA1 with ea eb
        subst ea eb
        simp only [Nat.mul_one] at xk
        have hlk := HLOW.out k
        have HMG := Lib.hid (modelOf_get hlt)
        obtain ⟨dk, hdk⟩ : ∃ a, a = gd D k := ⟨_, rfl⟩
        have HDK := Lib.hid hdk
        rw [← hdk] at xk hlk
        replace xk : w1.cell? ⟨g1, o1 + k, none⟩ = some (.int .i64 dk) := xk
        clear hdk
        have y0 := cell_stays HI.out.2 hx0
        have yk := cell_stays HI.out.2 xk
        have hw : IntKind.i64.wrap (dk - d0) = dk - d0 := IntWalk.i64_in _ (by omega)
        obtain ⟨A2, c2, hA2⟩ := slice_own HI.out.1
        subst hA2
        have hbl := World.block_lt_of_cell? wr _ y0
        simp only at hbl
        go_wp2_with fail
        go_region_held3 (fun W => W.cell? ⟨g1, o1, none⟩ = some (.int .i64 d0) ∧ W.cell? ⟨g1, o1 + k, none⟩ = some (.int .i64 dk)) (first
          | exact ⟨y0, yk⟩
          | exact ⟨cell_stays (bel_one _ _) y0, cell_stays (bel_one _ _) yk⟩
          | exact ⟨cell_stays hb6 hx0, cell_stays hb6 xk⟩) (first
          | (refine step_app _ rfl (.tmp 21) (.tmp 30) 27 rfl w1.heap.size 3 j0 _ 1 8 Try.underlying27 hj0 hy0 hy1 hy2 rfl (by decide) (.slice A2 k c2) k (ints ((modelOf D).take k)) rfl (ownsRow_below HI.out.1 (bel_one _ _).drew) (some ⟨wr.heap.size, 0, none⟩) 1 1 [.int .i64 (dk - d0)] rfl (src_new' wr [.int .i64 (dk - d0)] _ 1 1 _ rfl rfl (by simp [Value.oneCell'])) (by unfold maxLen; omega) (by omega) (by have := HI.out.2.size; simp; omega) ?_; intro v6 w6 hown6 hg6 hloc6; have HO6 := Lib.hid hown6; have hb6 : Below w1.heap.size w1 w6 := ((bel_al HI.out.2 _).drew).trans (grown_below hg6 (by have := HI.out.2.size; simp; omega) (fun g h => (ownsRow_lt HI.out.1 h).1)); clear hown6 hg6 hloc6))
        go_wp2_with fail
        go_roundw
        case rel => exact ⟨k + 1, by omega, by go_num, Lib.hid ⟨by rw [take_snoc' HMG.out, ← HDK.out, ← HD0.out]; have h := HO6.out; simp only [ints, List.map_append, List.map_cons, List.map_nil] at h ⊢; exact h, hb6⟩⟩
        case measure => simp [intOf]; omega
      · obtain rfl : k = D.length := by omega
        go_wp2_with fail
        go_ret2
        have h := HI.out.1
        rw [List.take_of_length_le (by rw [modelOf_length]; exact Nat.le_refl _)] at h
        exact ⟨_, rfl, sl_of_means (ints_mean w _) (bel_tr HB1.out HI.out.2) (by rw [modelOf_length]; exact h), bel_tr HB1.out HI.out.2⟩

set_option maxRecDepth 100000 in
set_option maxHeartbeats 2000000 in
theorem rzsolve_any (n : Int) (hn6 : n ≤ 6) (bs : List Bd) (v : Value) (w : World) (hl : IsBds w v bs) :
    Calls Try.prog 15 #[zoneV n v] w fun e W => ∃ v', e = .returned (.tuple #[.bool (rsolveR n bs).1, v', .int .i64 (rsolveR n bs).2.2]) ∧ IsInts W v' (rsolveR n bs).2.1 ∧ Below w.heap.size w W := by
  unfold zoneV
  have HL := Lib.hid hl
  obtain ⟨A, c, rfl, -, -, -⟩ := hl
  obtain ⟨e0, he0⟩ : ∃ e, zoneErr n bs = e := ⟨_, rfl⟩
  have HE0 := Lib.hid he0
  by_cases h0 : e0 = 0
  · have g0 : (e0 != 0) = false := by simpa using h0
    obtain ⟨hn1, -, hlen, hgood⟩ := good_of (he0.trans h0)
    have HZ : Hid (zoneErr n bs = 0) := Lib.hid (he0.trans h0)
    obtain ⟨N, rfl⟩ := Int.eq_ofNat_of_zero_le (by omega : 0 ≤ n)
    have HG : Hid (good N bs) := Lib.hid (by rw [Int.toNat_natCast] at hgood; exact hgood)
    have HR : Hid (rsolveR N bs = (feas N (bs.map ed), (if feas N (bs.map ed) = true then modelOf (sums N (bs.map ed)) else []), 0)) := Lib.hid (by
      unfold rsolveR
      rw [if_pos HZ.out, Int.toNat_natCast]
      cases feas N (bs.map ed) <;> rfl)
    clear he0 h0 hgood
    go_enter Try.func15, Try.ntmps15
    go_wp2_with (first
      | (go_at_call 33; refine (rzcheck_any _ bs _ _ (HL.out.stays bdAt_stays (bel_one _ _))).mono ?_; rw [HE0.out]; rintro e w1 ⟨rfl, hb1⟩; obtain ⟨hz, -⟩ := new_cells hb1; have hbw1 := bel_tr (bel_one _ _) hb1)
      | (go_at_call 43; refine (rmodel_any N ⟨by omega, by omega⟩ bs _ _ (HL.out.stays bdAt_stays hbw1) HG.out hlen).mono ?_; rintro e w2 ⟨v2, rfl, hq2, hb2⟩))
    rw [HR.out]
    exact bodyPost_ret (v := .tuple #[.bool (feas N (bs.map ed)), v2, .int .i64 0]) (by simp [results, Try.results15, go_sem]) rfl ⟨v2, rfl, hq2, bel_tr hbw1 hb2⟩
  · have g0 : (e0 != 0) = true := by simpa using h0
    have HR : Hid (rsolveR n bs = (false, [], e0)) := Lib.hid (by unfold rsolveR; rw [he0, if_neg h0])
    clear he0 h0
    go_enter Try.func15, Try.ntmps15
    go_wp2_with (go_at_call 33; refine (rzcheck_any n bs _ _ (HL.out.stays bdAt_stays (bel_one _ _))).mono ?_; rw [HE0.out]; rintro e w1 ⟨rfl, hb1⟩)
    rw [HR.out]
    exact bodyPost_ret (v := .tuple #[.bool false, .slice none 0 0, .int .i64 e0]) (by simp [results, Try.results15, go_sem]) rfl ⟨.slice none 0 0, rfl, Sl.nil _ _ _ _ _ (Nat.zero_le _), bel_tr (bel_one _ _) hb1⟩
end Go.Proofs.Ytgecbjjcjemcgaa
