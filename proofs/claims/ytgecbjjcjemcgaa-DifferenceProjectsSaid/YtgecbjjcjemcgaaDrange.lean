/- The values of an unknown, as the program finds them. -/
import Derived.Test.YtgecbjjcjemcgaaDclosed
import Derived.StillTailTactics
namespace Go.Proofs.Ytgecbjjcjemcgaa
open Go.RowKit

theorem upTo_le6 (a : Nat) (h : a ≤ 6) : upTo 1125899906842624 a ≤ 72057594037927936 := by
  have : a = 0 ∨ a = 1 ∨ a = 2 ∨ a = 3 ∨ a = 4 ∨ a = 5 ∨ a = 6 := by omega
  rcases this with rfl | rfl | rfl | rfl | rfl | rfl | rfl <;> decide
theorem fw_bounds {n : Nat} {bs : List Bd} (hg : good n bs) (hn6 : n ≤ 6) (hlen : bs.length ≤ 256) (hf : feas n (bs.map ed) = true) {u v : Nat} {c : Int} (h : fw n (bs.map ed) u v = some c) : -2017612633061982208 ≤ c ∧ c ≤ 72057594037927936 := by
  have h1 := up_relK (n := n) (bs := bs.map ed) (U := 1125899906842624) (by decide) (fun b hb => by obtain ⟨d, hd, rfl⟩ := List.mem_map.1 hb; exact (hg d hd).2.2.2.2.2) n u v c h
  have h2 := upTo_le6 n hn6
  obtain ⟨es, e1, e2⟩ := relK_ind (P := Ways (bs.map ed)) (n := n) (fun T k x y h => ways_step T k x y h) (ways_bounds _) n u v c h
  have h3 := way_sat (feas_sat hf) e1
  have h4 := sums_low hg u
  have h5 := sums_low hg v
  have h6 : (n + 1) * bs.length ≤ 7 * 256 := Nat.mul_le_mul (by omega) hlen
  omega

/-- two blocks that a call lays first: what they hold in a later world -/
theorem two_cells {w w' : World} {cs ds : Array Value} {s t : TypeId} (hb : Below ((w.alloc (.cells cs s)).alloc (.cells ds t)).heap.size ((w.alloc (.cells cs s)).alloc (.cells ds t)) w') :
    (∀ i, w'.cell? ⟨w.heap.size, i, none⟩ = cs[i]?) ∧ (∀ i, w'.cell? ⟨w.heap.size + 1, i, none⟩ = ds[i]?) ∧ (∀ i, w'.frozen? ⟨w.heap.size + 1, i, none⟩ = false) ∧ Below w.heap.size w w' ∧ w.heap.size + 1 < w'.heap.size := by
  have h2 := new_cells hb
  have h1 := (new_cells (bel_tr (bel_one (w.alloc (.cells cs s)) (.cells ds t)) hb)).1
  have h3 := hb.size
  rw [World.size_alloc] at h2
  simp only [World.size_alloc] at h3
  exact ⟨h1, h2.1, h2.2, bel_tr (bel_al (bel_one _ _) _) hb, by omega⟩
theorem arr_keep2 {W W' : World} {b : Nat} {arr : Array Value} (h : ∀ j, W.cell? ⟨b, j, none⟩ = arr[j]?) (hf : ∀ j, W.frozen? ⟨b, j, none⟩ = false) (hl : b < W.heap.size) (hb : Below W.heap.size W W') : (∀ j, W'.cell? ⟨b, j, none⟩ = arr[j]?) ∧ (∀ j, W'.frozen? ⟨b, j, none⟩ = false) ∧ b < W'.heap.size :=
  ⟨arr_keep h hl hb, fun j => (World.frozen?_of_block (a := ⟨b, j, none⟩) (hb.block b hl)).trans (hf j), Nat.lt_of_lt_of_le hl hb.size⟩

/-- the least value, the greatest, the error -/
def rangeR (n : Int) (bs : List Bd) (u : Int) : Int × Int × Int :=
  if zoneErr n bs = 0 then
    if u < 0 ∨ n ≤ u then (0, 0, 2)
    else if feas n.toNat (bs.map ed) = true then
      match tight n.toNat (bs.map ed) u.toNat 0, tight n.toNat (bs.map ed) 0 u.toNat with
      | some hi, some lo => (-lo, hi, 0)
      | _, _ => (0, 0, 25)
    else (0, 0, 24)
  else (0, 0, zoneErr n bs)

def RangeRet (w : World) (r : Int × Int × Int) (e : Ending) (W : World) : Prop := e = .returned (.tuple #[.agg #[.int .i64 r.1, .int .i64 r.2.1], .int .i64 r.2.2]) ∧ Below w.heap.size w W

set_option maxRecDepth 100000 in
set_option maxHeartbeats 4000000 in
theorem range_any (n : Int) (hn6 : n ≤ 6) (bs : List Bd) (v : Value) (u : Int) (w : World) (hl : IsBds w v bs) :
    Calls Try.prog 22 #[zoneV n v, .int .i64 u] w (RangeRet w (rangeR n bs u)) := by
  unfold zoneV
  have HL := Lib.hid hl
  obtain ⟨A, c, rfl, -, -, -⟩ := hl
  obtain ⟨e0, he0⟩ : ∃ e, zoneErr n bs = e := ⟨_, rfl⟩
  have HE0 := Lib.hid he0
  by_cases h0 : e0 = 0
  · have g0 : (e0 != 0) = false := by simpa using h0
    obtain ⟨hn1, -, hlen, hgood⟩ := good_of (he0.trans h0)
    have HZ : Hid (zoneErr n bs = 0) := Lib.hid (he0.trans h0)
    obtain ⟨N, rfl⟩ := Int.eq_ofNat_of_zero_le (by omega : 0 ≤ n)
    have HG : Hid (good N bs) := Lib.hid (by rw [Int.toNat_natCast] at hgood; exact hgood)
    clear he0 h0 hgood
    by_cases hu : u < 0 ∨ (N : Int) ≤ u
    · have HR : Hid (rangeR N bs u = (0, 0, 2)) := Lib.hid (by unfold rangeR; rw [if_pos HZ.out, if_pos hu])
      by_cases hu0 : u < 0
      · clear hu
        go_enter Try.func22, Try.ntmps22
        go_wp2_with (go_at_call 32; refine (zcheck_any _ bs _ _ (HL.out.stays bdAt_stays (bel_al (bel_one _ _) _))).mono ?_; rw [HE0.out]; rintro e w1 ⟨rfl, hb1⟩; obtain ⟨hz, hr, hrf, hbw, hsz⟩ := two_cells hb1; clear hb1)
        rw [HR.out]
        exact bodyPost_ret (v := .tuple #[.agg #[.int .i64 0, .int .i64 0], .int .i64 2]) (by simp [results, Try.results22, go_sem, hr]) rfl ⟨rfl, bel_set (bel_set hbw (by omega) _) (by omega) _⟩
      · have hu1 : (N : Int) ≤ u := by omega
        clear hu
        go_enter Try.func22, Try.ntmps22
        go_wp2_with (go_at_call 32; refine (zcheck_any _ bs _ _ (HL.out.stays bdAt_stays (bel_al (bel_one _ _) _))).mono ?_; rw [HE0.out]; rintro e w1 ⟨rfl, hb1⟩; obtain ⟨hz, hr, hrf, hbw, hsz⟩ := two_cells hb1; clear hb1)
        rw [HR.out]
        exact bodyPost_ret (v := .tuple #[.agg #[.int .i64 0, .int .i64 0], .int .i64 2]) (by simp [results, Try.results22, go_sem, hr]) rfl ⟨rfl, bel_set (bel_set hbw (by omega) _) (by omega) _⟩
    · have HU := Lib.hid hu
      have hu0 : ¬ u < 0 := by omega
      have hu1 : ¬ (N : Int) ≤ u := by omega
      clear hu
      obtain ⟨U, rfl⟩ := Int.eq_ofNat_of_zero_le (by omega : 0 ≤ u)
      have hs0 := fun W (a : Option Addr) l c => run_neq_slice_nil (P := Try.prog) W 27 3 a l c Try.underlying27
      go_enter Try.func22, Try.ntmps22
      go_wp2_with (go_at_call 32; refine (zcheck_any _ bs _ _ (HL.out.stays bdAt_stays (bel_al (bel_one _ _) _))).mono ?_; rw [HE0.out]; rintro e w1 ⟨rfl, hb1⟩; obtain ⟨hz, hr, hrf, hbw, hsz⟩ := two_cells hb1; clear hb1)
      refine (solve_any N ⟨by omega, by omega⟩ bs _ _ (HL.out.stays bdAt_stays hbw) HG.out hlen).mono ?_
      rintro e w2 ⟨hb2, hcase⟩
      obtain ⟨hr2, hrf2, hsz2⟩ := arr_keep2 hr hrf hsz hb2
      have hz2 := arr_keep hz (by omega : w.heap.size < w1.heap.size) hb2
      replace hbw := bel_tr hbw hb2
      clear hr hrf hsz hz hb2
      rcases hcase with ⟨hf, g, rfl, -, -⟩ | ⟨hf, L, A', c', rfl, -, -, -⟩
      · have HF := Lib.hid hf
        clear hf
        go_wp2_with fail
        refine (tightest_any N ⟨by omega, by omega⟩ bs _ _ (HL.out.stays bdAt_stays hbw) HG.out hlen HF.out).mono ?_
        rintro e w3 ⟨gt, rows, p, rfl, ht⟩
        obtain ⟨hr, hrf, hsz⟩ := arr_keep2 hr2 hrf2 hsz2 ht.bel
        replace hbw := bel_tr hbw ht.bel
        clear hr2 hrf2 hsz2 hz2
        have HOK := Lib.hid (good_ok HG.out)
        have HF1 := Lib.hid (fw_tight HOK.out (feas_sat HF.out) (by omega : U < N) (by omega : 0 < N))
        have HF2 := Lib.hid (fw_tight HOK.out (feas_sat HF.out) (by omega : 0 < N) (by omega : U < N))
        have hU' : (U : Int) < (N : Int) := by omega
        have hN0 : 0 < N := by omega
        have hN0' : (0 : Int) < (N : Int) := by omega
        have q0 := ht.outer U (by omega)
        have q1 := ht.row U 0 (by omega) (by omega)
        have q2 := ht.outer 0 (by omega)
        have q3 := ht.row 0 U (by omega) (by omega)
        obtain ⟨pa, hpa⟩ : ∃ o, o = p U 0 := ⟨_, rfl⟩
        obtain ⟨pb, hpb⟩ : ∃ o, o = p 0 U := ⟨_, rfl⟩
        rw [← hpa] at q1
        rw [← hpb] at q3
        have HT := Lib.hid ht
        have HPA := Lib.hid hpa
        have HPB := Lib.hid hpb
        clear ht hpa hpb
        cases pa with
        | none =>
          have HR : Hid (rangeR N bs U = (0, 0, 25)) := Lib.hid (by
            unfold rangeR
            rw [if_pos HZ.out, if_neg HU.out, Int.toNat_natCast, if_pos HF.out, Int.toNat_natCast, ← HF1.out, HT.out.no U 0 (by omega) (by omega) HPA.out.symm])
          simp only [ptr, Option.map_none] at q1
          go_wp2_with fail
          go_region_held3 (fun W => W.cell? ⟨gt, U, none⟩ = some (.slice (some ⟨rows U, 0, none⟩) N N) ∧ W.cell? ⟨rows U, 0, none⟩ = some (.pointer none) ∧ W.cell? ⟨gt, 0, none⟩ = some (.slice (some ⟨rows 0, 0, none⟩) N N) ∧ W.cell? ⟨rows 0, U, none⟩ = some (ptr pb)) (exact ⟨q0, q1, q2, q3⟩) (fail)
          have hr' : ∀ j, w3.drew.cell? ⟨w.heap.size + 1, j, none⟩ = #[Value.int .i64 0, Value.int .i64 0][j]? := hr
          have hrf' : ∀ j, w3.drew.frozen? ⟨w.heap.size + 1, j, none⟩ = false := hrf
          go_wp2_with fail
          rw [HR.out]
          exact bodyPost_ret (v := .tuple #[.agg #[.int .i64 0, .int .i64 0], .int .i64 25]) (by simp [results, Try.results22, go_sem, hr]) rfl ⟨rfl, (bel_set (bel_set hbw (by omega) _) (by omega) _).drew⟩
        | some qa =>
          obtain ⟨ca, ta, ka, -, -⟩ := HT.out.yes U 0 qa (by omega) (by omega) HPA.out.symm
          have HTA := Lib.hid ta
          simp only [ptr, Option.map_some] at q1
          cases pb with
          | none =>
            have HR : Hid (rangeR N bs U = (0, 0, 25)) := Lib.hid (by
              unfold rangeR
              rw [if_pos HZ.out, if_neg HU.out, Int.toNat_natCast, if_pos HF.out, Int.toNat_natCast, ← HF1.out, ta, ← HF2.out, HT.out.no 0 U (by omega) (by omega) HPB.out.symm])
            simp only [ptr, Option.map_none] at q3
            clear ta ka
            go_wp2_with fail
            go_region_held3 (fun W => W.cell? ⟨gt, U, none⟩ = some (.slice (some ⟨rows U, 0, none⟩) N N) ∧ W.cell? ⟨rows U, 0, none⟩ = some (.pointer (some ⟨qa, 0, none⟩)) ∧ W.cell? ⟨gt, 0, none⟩ = some (.slice (some ⟨rows 0, 0, none⟩) N N) ∧ W.cell? ⟨rows 0, U, none⟩ = some (.pointer none)) (exact ⟨q0, q1, q2, q3⟩) (fail)
            have hr' : ∀ j, w3.drew.cell? ⟨w.heap.size + 1, j, none⟩ = #[Value.int .i64 0, Value.int .i64 0][j]? := hr
            have hrf' : ∀ j, w3.drew.frozen? ⟨w.heap.size + 1, j, none⟩ = false := hrf
            go_wp2_with fail
            rw [HR.out]
            exact bodyPost_ret (v := .tuple #[.agg #[.int .i64 0, .int .i64 0], .int .i64 25]) (by simp [results, Try.results22, go_sem, hr]) rfl ⟨rfl, (bel_set (bel_set hbw (by omega) _) (by omega) _).drew⟩
          | some qb =>
            obtain ⟨cb, tb, kb, -, -⟩ := HT.out.yes 0 U qb (by omega) (by omega) HPB.out.symm
            have hba := fw_bounds HG.out (by omega) hlen HF.out ta
            have hbb := fw_bounds HG.out (by omega) hlen HF.out tb
            have HR : Hid (rangeR N bs U = (-cb, ca, 0)) := Lib.hid (by
              unfold rangeR
              rw [if_pos HZ.out, if_neg HU.out, Int.toNat_natCast, if_pos HF.out, Int.toNat_natCast, ← HF1.out, ta, ← HF2.out, tb])
            simp only [ptr, Option.map_some] at q3
            have hw : IntKind.i64.wrap (-cb) = -cb := IntWalk.i64_in _ (by omega)
            clear ta tb
            go_wp2_with fail
            go_region_held3 (fun W => W.cell? ⟨gt, U, none⟩ = some (.slice (some ⟨rows U, 0, none⟩) N N) ∧ W.cell? ⟨rows U, 0, none⟩ = some (.pointer (some ⟨qa, 0, none⟩)) ∧ W.cell? ⟨gt, 0, none⟩ = some (.slice (some ⟨rows 0, 0, none⟩) N N) ∧ W.cell? ⟨rows 0, U, none⟩ = some (.pointer (some ⟨qb, 0, none⟩))) (exact ⟨q0, q1, q2, q3⟩) (fail)
            go_wp2_with fail
            refine wp_gen ?_
            intro W4 hW4
            have ka4 : W4.cell? ⟨qa, 0, none⟩ = some (.int .i64 ca) := by rw [hW4]; exact ka
            have kb4 : W4.cell? ⟨qb, 0, none⟩ = some (.int .i64 cb) := by rw [hW4]; exact kb
            have hr4 : ∀ j, W4.cell? ⟨w.heap.size + 1, j, none⟩ = #[Value.int .i64 0, Value.int .i64 0][j]? := by rw [hW4]; exact hr
            have hrf4 : ∀ j, W4.frozen? ⟨w.heap.size + 1, j, none⟩ = false := by rw [hW4]; exact hrf
            have hbw4 : Below w.heap.size w W4 := by rw [hW4]; exact hbw.drew
            clear hW4 hr hrf ka kb q0 q1 q2 q3
            go_still_tail 8, (by kernel_rfl)
            change wpList _ _ _ _ _ W4.drew
            go_wp2_with fail
            rw [HR.out]
            exact bodyPost_ret (v := .tuple #[.agg #[.int .i64 (-cb), .int .i64 ca], .int .i64 0]) (by simp [results, Try.results22, go_sem, hr4]) rfl ⟨rfl, (bel_set (bel_set hbw4 (by omega) _) (by omega) _).drew⟩
      · have HR : Hid (rangeR N bs U = (0, 0, 24)) := Lib.hid (by
          unfold rangeR
          rw [if_pos HZ.out, if_neg HU.out, Int.toNat_natCast, hf]; rfl)
        clear hf
        go_wp2_with fail
        rw [HR.out]
        exact bodyPost_ret (v := .tuple #[.agg #[.int .i64 0, .int .i64 0], .int .i64 24]) (by simp [results, Try.results22, go_sem, hr2]) rfl ⟨rfl, bel_set (bel_set hbw (by omega) _) (by omega) _⟩
  · have g0 : (e0 != 0) = true := by simpa using h0
    have HR : Hid (rangeR n bs u = (0, 0, e0)) := Lib.hid (by unfold rangeR; rw [he0, if_neg h0])
    clear he0 h0
    go_enter Try.func22, Try.ntmps22
    go_wp2_with (go_at_call 32; refine (zcheck_any _ bs _ _ (HL.out.stays bdAt_stays (bel_al (bel_one _ _) _))).mono ?_; rw [HE0.out]; rintro e w1 ⟨rfl, hb1⟩; obtain ⟨hz, hr, hrf, hbw, hsz⟩ := two_cells hb1; clear hb1)
    rw [HR.out]
    exact bodyPost_ret (v := .tuple #[.agg #[.int .i64 0, .int .i64 0], .int .i64 e0]) (by simp [results, Try.results22, go_sem, hr]) rfl ⟨rfl, bel_set (bel_set hbw (by omega) _) (by omega) _⟩
end Go.Proofs.Ytgecbjjcjemcgaa
