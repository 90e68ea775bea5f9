/- The reference's aggregates: Add. -/
import Derived.Test.YtclpglgigpjfoaaGreatDoorQMvrow
import Derived.Deep.Cut
namespace Go.Proofs.YtclpglgigpjfoaaGreatDoor
open Go.RowKit

def zeroAc : Ac := ⟨0, 0, zeroVl⟩
def addAR (k : Int) (a : Ac) (v : Vl) : Ac × Int := if wrongE k v ≠ 0 then (zeroAc, wrongE k v) else (stepA k a v, 0)
set_option maxRecDepth 100000 in
set_option maxHeartbeats 8000000 in
theorem radd_any (k i : Int) (a : Ac) (v : Vl) (w : World) (hk : knownB k = true) (h : AcOk k a i) (hi : 0 ≤ i ∧ i < 4096) :
    Calls Tryz.prog 195 #[accV a, vlV v] w fun e w' => e = .returned (.tuple #[accV (addAR k a v).1, .int .i64 (addAR k a v).2]) ∧ Below w.heap.size w w' := by
  have ha : accV a = .agg #[.int .i64 k, .int .i64 i, .int .i64 a.val.kind, .int .i64 a.val.num, .string a.val.text] := by
    unfold accV
    rw [h.kind, h.count]
  have HCK := Lib.hid (fun W => rcheckA_ok k i a W hk h (by omega))
  have HWR := Lib.hid (fun W => rwrong_any k v W)
  obtain ⟨er, her⟩ : ∃ er, wrongE k v = er := ⟨_, rfl⟩
  have HER := Lib.hid her
  have HOK := Lib.hid h
  have HK := Lib.hid hk
  have HI := Lib.hid hi
  rw [her] at HWR
  obtain ⟨⟨RA, re⟩, hR⟩ : ∃ r, addAR k a v = r := ⟨_, rfl⟩
  have HR := Lib.hid hR
  rw [hR]
  rw [ha] at HCK ⊢
  obtain ⟨hi1, hi2⟩ := hi
  have hi3 : (i == 4096) = false := by have : ¬ i = 4096 := by omega
                                       simpa using this
  unfold vlV at HWR ⊢
  unfold accV
  clear her hk h ha hR hi1 hi2
  go_enter Tryz.func195, Tryz.ntmps195
  go_wp2_with fail
  refine calls_gen fun W9 e9 => ?_
  have x0 : W9.cell? ⟨w.heap.size, 0, none⟩ = some (.int .i64 k) := by rw [e9]; go_simp
  have x1 : W9.cell? ⟨w.heap.size, 1, none⟩ = some (.int .i64 i) := by rw [e9]; go_simp
  have x2 : W9.cell? ⟨w.heap.size, 2, none⟩ = some (.int .i64 a.val.kind) := by rw [e9]; go_simp
  have x3 : W9.cell? ⟨w.heap.size, 3, none⟩ = some (.int .i64 a.val.num) := by rw [e9]; go_simp
  have x4 : W9.cell? ⟨w.heap.size, 4, none⟩ = some (.string a.val.text) := by rw [e9]; go_simp
  have y0 : W9.cell? ⟨w.heap.size + 1, 0, none⟩ = some (.int .i64 v.kind) := by rw [e9]; go_simp
  have y1 : W9.cell? ⟨w.heap.size + 1, 1, none⟩ = some (.int .i64 v.num) := by rw [e9]; go_simp
  have y2 : W9.cell? ⟨w.heap.size + 1, 2, none⟩ = some (.string v.text) := by rw [e9]; go_simp
  have hr : W9.heap[w.heap.size + 2]? = some (.cells [.int .i64 0, .int .i64 0, .int .i64 0, .int .i64 0, .string ⟨#[]⟩].toArray 240 (0, 0)) := by rw [e9]; exact heap_new' _ _ _ (by simp)
  have hb9 : Below w.heap.size w W9 := by rw [e9]; exact (by repeat (first | exact Below.refl _ _ | assumption | refine Below.drew ?_ | refine bel_al ?_ _ | refine bel_set ?_ (by omega) _ | refine bel_tr ?_ (by assumption)))
  clear e9
  refine (HCK.out W9).mono ?_
  rintro e w1 ⟨rfl, hb1⟩
  replace x0 := cell_stays hb1 x0
  replace x1 := cell_stays hb1 x1
  replace x2 := cell_stays hb1 x2
  replace x3 := cell_stays hb1 x3
  replace x4 := cell_stays hb1 x4
  replace y0 := cell_stays hb1 y0
  replace y1 := cell_stays hb1 y1
  replace y2 := cell_stays hb1 y2
  have hr1 := (hb1.block _ (blk_lt hr)).trans hr
  obtain ⟨B4, hB4⟩ : ∃ B4, B4 = w.heap.size + 2 := ⟨_, rfl⟩
  rw [show w.heap.size + 1 + 1 = w.heap.size + 2 from rfl]
  rw [← hB4] at hr1 ⊢
  have hw4 : w.heap.size ≤ B4 := by omega
  have hn0 : w.heap.size ≠ B4 := by omega
  have hn1 : w.heap.size + 1 ≠ B4 := by omega
  have HB1 := Lib.hid (bel_tr hb9 hb1)
  have HR1 := Lib.hid hr1
  clear hb9 hb1 hr hr1 hB4
  go_wp2_with fail
  refine (HWR.out _).mono ?_
  rintro e w2 ⟨rfl, hb2⟩
  replace x0 := cell_stays hb2 x0
  replace x1 := cell_stays hb2 x1
  replace x2 := cell_stays hb2 x2
  replace x3 := cell_stays hb2 x3
  replace x4 := cell_stays hb2 x4
  replace y0 := cell_stays hb2 y0
  replace y1 := cell_stays hb2 y1
  replace y2 := cell_stays hb2 y2
  have HRR := Lib.hid ((hb2.block _ (blk_lt HR1.out)).trans HR1.out)
  have HB2 := Lib.hid (bel_tr HB1.out hb2)
  clear hb2 HR1 HB1
  by_cases h0 : er = 0
  case neg =>
    obtain ⟨e1, e2⟩ : (⟨0, 0, ⟨0, 0, ⟨#[]⟩⟩⟩ : Ac) = RA ∧ er = re := by have h := HR.out; unfold addAR at h; rw [HER.out, if_pos h0] at h; injection h with h1 h2; exact ⟨h1, h2⟩
    subst e1 e2
    have h0' : (er != 0) = true := by simpa using h0
    clear h0
    have rr := HRR.out
    have z0 : w2.cell? ⟨B4, 0, none⟩ = some (.int .i64 0) := by rw [blk_cell rr]; rfl
    have z1 : w2.cell? ⟨B4, 1, none⟩ = some (.int .i64 0) := by rw [blk_cell rr]; rfl
    have z2 : w2.cell? ⟨B4, 2, none⟩ = some (.int .i64 0) := by rw [blk_cell rr]; rfl
    have z3 : w2.cell? ⟨B4, 3, none⟩ = some (.int .i64 0) := by rw [blk_cell rr]; rfl
    have z4 : w2.cell? ⟨B4, 4, none⟩ = some (.string ⟨#[]⟩) := by rw [blk_cell rr]; rfl
    have f0 := blk_frozen rr 0
    have f1 := blk_frozen rr 1
    have f2 := blk_frozen rr 2
    have f3 := blk_frozen rr 3
    have f4 := blk_frozen rr 4
    have HQ := Lib.hid (accBlk_set rr (.int .i64 0) (.int .i64 0) (.int .i64 0) (.int .i64 0) (.string ⟨#[]⟩))
    have HQB := Lib.hid (bel_set (bel_set (bel_set (bel_set (bel_set (HB2.out) (i := 0) hw4 (.int .i64 0)) (i := 1) hw4 (.int .i64 0)) (i := 2) hw4 (.int .i64 0)) (i := 3) hw4 (.int .i64 0)) (i := 4) hw4 (.string ⟨#[]⟩))
    clear rr
    go_wp2_with fail
    have q0 := blk_cell HQ.out 0
    have q1 := blk_cell HQ.out 1
    have q2 := blk_cell HQ.out 2
    have q3 := blk_cell HQ.out 3
    have q4 := blk_cell HQ.out 4
    exact bodyPost_ret (v := .tuple #[.agg #[.int .i64 0, .int .i64 0, .int .i64 0, .int .i64 0, .string ⟨#[]⟩], .int .i64 er]) (by simp [results, Tryz.results195, go_sem, q0, q1, q2, q3, q4]) rfl ⟨rfl, HQB.out⟩
  subst h0
  obtain ⟨e1, e2⟩ : stepA k a v = RA ∧ 0 = re := by have h := HR.out; unfold addAR at h; rw [HER.out, if_neg (by simp)] at h; injection h with h1 h2; exact ⟨h1, h2⟩
  have hs : RA = if i = 0 then ⟨k, 1, singV k v⟩ else ⟨k, i + 1, combV k a.val (singV k v)⟩ := by
    rw [← e1]
    unfold stepA mergA
    rw [HOK.out.kind, HOK.out.count]
    by_cases hi0 : i = 0
    · rw [if_pos hi0, if_pos hi0]
    · rw [if_neg hi0, if_neg hi0, if_neg (by simp)]
  clear e1
  subst e2
  have hlB4 : B4 < w2.heap.size := blk_lt HRR.out
  have ml0 : w.heap.size < w2.heap.size := World.block_lt_of_cell? w2 ⟨w.heap.size, _, none⟩ x0
  have ml1 : w.heap.size + 1 < w2.heap.size := World.block_lt_of_cell? w2 ⟨w.heap.size + 1, _, none⟩ y0
  have m0 : w.heap.size ≠ w2.heap.size := by omega
  have m0' : w2.heap.size ≠ w.heap.size := by omega
  have m1 : w.heap.size + 1 ≠ w2.heap.size := by omega
  have m1' : w2.heap.size ≠ w.heap.size + 1 := fun e => m1 e.symm
  have m4 : B4 ≠ w2.heap.size := by omega
  have m4' : w2.heap.size ≠ B4 := by omega
  have hw8 : w.heap.size ≤ w2.heap.size := HB2.out.size
  have hi62 : i + 1 ≤ 9223372036854775807 ∧ -9223372036854775808 ≤ i + 1 := by have := HI.out; omega
  obtain ⟨hi63, hi64⟩ := hi62
  obtain ⟨B8, hB8⟩ : ∃ B8, B8 = w2.heap.size := ⟨_, rfl⟩
  have hw8' : w.heap.size ≤ B8 := by omega
  have h48 : B4 ≠ B8 := by omega
  have h08 : w.heap.size ≠ B8 := by omega
  have h18 : w.heap.size + 1 ≠ B8 := by omega
  go_upto_region 10 with fail
  refine wp_gen fun w3 e3 => ?_
  have hr8 : w3.heap[B8]? = some (.cells [.int .i64 k, .int .i64 (i + 1), .int .i64 v.kind, .int .i64 v.num, .string v.text].toArray 240 (0, 0)) := by rw [e3, hB8]; exact heap_new' _ _ _ rfl
  have hb23 : Below w2.heap.size w2 w3 := by rw [e3]; exact (by repeat (first | exact Below.refl _ _ | assumption | refine Below.drew ?_ | refine bel_al ?_ _ | refine bel_set ?_ (by omega) _ | refine bel_tr ?_ (by assumption)))
  have hr4 := (hb23.block B4 hlB4).trans HRR.out
  replace x0 := cell_stays hb23 x0
  replace x1 := cell_stays hb23 x1
  replace x2 := cell_stays hb23 x2
  replace x3 := cell_stays hb23 x3
  replace x4 := cell_stays hb23 x4
  replace y0 := cell_stays hb23 y0
  replace y1 := cell_stays hb23 y1
  replace y2 := cell_stays hb23 y2
  have HB3 := Lib.hid (bel_tr HB2.out hb23)
  have HR8 := Lib.hid hr8
  have HR4 := Lib.hid hr4
  rw [← hB8]
  clear e3 hb23 hr8 hr4 hB8 ml0 ml1 m0 m0' m1 m1' m4 m4' hlB4 hw8 HRR HB2
  by_cases hk0 : k = 0
  · subst hk0
    have hs2 : RA = ⟨0, i + 1, ⟨0, 0, ⟨#[]⟩⟩⟩ := by
      rw [hs]
      by_cases hi0 : i = 0
      · rw [if_pos hi0, hi0]; rfl
      · rw [if_neg hi0]; rfl
    subst hs2
    clear hs
    have u0 : w3.cell? ⟨B8, 0, none⟩ = some (.int .i64 0) := by rw [blk_cell HR8.out]; rfl
    have u1 : w3.cell? ⟨B8, 1, none⟩ = some (.int .i64 (i + 1)) := by rw [blk_cell HR8.out]; rfl
    have u2 : w3.cell? ⟨B8, 2, none⟩ = some (.int .i64 v.kind) := by rw [blk_cell HR8.out]; rfl
    have u3 : w3.cell? ⟨B8, 3, none⟩ = some (.int .i64 v.num) := by rw [blk_cell HR8.out]; rfl
    have u4 : w3.cell? ⟨B8, 4, none⟩ = some (.string v.text) := by rw [blk_cell HR8.out]; rfl
    have g0 := blk_frozen HR8.out 0
    have g1 := blk_frozen HR8.out 1
    have g2 := blk_frozen HR8.out 2
    have g3 := blk_frozen HR8.out 3
    have g4 := blk_frozen HR8.out 4
    clear x1 x2 x3 x4 y0 y1 y2
    go_upto_region 14 with fail
    refine wp_gen fun w4 e4 => ?_
    have HR8' : Hid (w4.heap[B8]? = some (.cells [.int .i64 0, .int .i64 (i + 1), .int .i64 0, .int .i64 0, .string ⟨#[]⟩].toArray 240 (0, 0))) := Lib.hid (by rw [e4]; exact blk_set (blk_set (blk_set HR8.out 2 (.int .i64 0)) 3 (.int .i64 0)) 4 (.string ⟨#[]⟩))
    have HR4' := Lib.hid (other_one (i := 4) h48 (.string ⟨#[]⟩) (other_one (i := 3) h48 (.int .i64 0) (other_one (i := 2) h48 (.int .i64 0) HR4.out)))
    have HB4 := Lib.hid (bel_set (bel_set (bel_set HB3.out (i := 2) hw8' (.int .i64 0)) (i := 3) hw8' (.int .i64 0)) (i := 4) hw8' (.string ⟨#[]⟩))
    rw [← e4] at HR4' HB4
    clear e4 u0 u1 u2 u3 u4 g0 g1 g2 g3 g4
    have u0 : w4.cell? ⟨B8, 0, none⟩ = some (.int .i64 0) := by rw [blk_cell HR8'.out]; rfl
    have u1 : w4.cell? ⟨B8, 1, none⟩ = some (.int .i64 (i + 1)) := by rw [blk_cell HR8'.out]; rfl
    have u2 : w4.cell? ⟨B8, 2, none⟩ = some (.int .i64 0) := by rw [blk_cell HR8'.out]; rfl
    have u3 : w4.cell? ⟨B8, 3, none⟩ = some (.int .i64 0) := by rw [blk_cell HR8'.out]; rfl
    have u4 : w4.cell? ⟨B8, 4, none⟩ = some (.string ⟨#[]⟩) := by rw [blk_cell HR8'.out]; rfl
    have g0 := blk_frozen HR8'.out 0
    have g1 := blk_frozen HR8'.out 1
    have g2 := blk_frozen HR8'.out 2
    have g3 := blk_frozen HR8'.out 3
    have g4 := blk_frozen HR8'.out 4
    have z0 : w4.cell? ⟨B4, 0, none⟩ = some (.int .i64 0) := by rw [blk_cell HR4'.out]; rfl
    have z1 : w4.cell? ⟨B4, 1, none⟩ = some (.int .i64 0) := by rw [blk_cell HR4'.out]; rfl
    have z2 : w4.cell? ⟨B4, 2, none⟩ = some (.int .i64 0) := by rw [blk_cell HR4'.out]; rfl
    have z3 : w4.cell? ⟨B4, 3, none⟩ = some (.int .i64 0) := by rw [blk_cell HR4'.out]; rfl
    have z4 : w4.cell? ⟨B4, 4, none⟩ = some (.string ⟨#[]⟩) := by rw [blk_cell HR4'.out]; rfl
    have f0 := blk_frozen HR4'.out 0
    have f1 := blk_frozen HR4'.out 1
    have f2 := blk_frozen HR4'.out 2
    have f3 := blk_frozen HR4'.out 3
    have f4 := blk_frozen HR4'.out 4
    have HQ := Lib.hid (accBlk_set HR4'.out (.int .i64 0) (.int .i64 (i + 1)) (.int .i64 0) (.int .i64 0) (.string ⟨#[]⟩))
    have HQB := Lib.hid (bel_set (bel_set (bel_set (bel_set (bel_set (HB4.out) (i := 0) hw4 (.int .i64 0)) (i := 1) hw4 (.int .i64 (i + 1))) (i := 2) hw4 (.int .i64 0)) (i := 3) hw4 (.int .i64 0)) (i := 4) hw4 (.string ⟨#[]⟩))
    clear x0
    go_wp2_with fail
    have q0 := blk_cell HQ.out 0
    have q1 := blk_cell HQ.out 1
    have q2 := blk_cell HQ.out 2
    have q3 := blk_cell HQ.out 3
    have q4 := blk_cell HQ.out 4
    exact bodyPost_ret (v := .tuple #[.agg #[.int .i64 0, .int .i64 (i + 1), .int .i64 0, .int .i64 0, .string ⟨#[]⟩], .int .i64 0]) (by simp [results, Tryz.results195, go_sem, q0, q1, q2, q3, q4]) rfl ⟨rfl, HQB.out⟩
  have hk0' : (k == 0) = false := by simpa using hk0
  have hsv : singV k v = v := by unfold singV; rw [if_neg hk0]
  rw [hsv] at hs
  by_cases hi0 : i = 0
  · subst hi0
    rw [if_pos rfl] at hs
    subst hs
    clear hk0 hsv
    have HR8' := HR8
    have HR4' := HR4
    clear x2 x3 x4 y0 y1 y2
    go_upto_region 14 with fail
    have u0 : w3.cell? ⟨B8, 0, none⟩ = some (.int .i64 k) := by rw [blk_cell HR8'.out]; rfl
    have u1 : w3.cell? ⟨B8, 1, none⟩ = some (.int .i64 1) := by rw [blk_cell HR8'.out]; rfl
    have u2 : w3.cell? ⟨B8, 2, none⟩ = some (.int .i64 v.kind) := by rw [blk_cell HR8'.out]; rfl
    have u3 : w3.cell? ⟨B8, 3, none⟩ = some (.int .i64 v.num) := by rw [blk_cell HR8'.out]; rfl
    have u4 : w3.cell? ⟨B8, 4, none⟩ = some (.string v.text) := by rw [blk_cell HR8'.out]; rfl
    have g0 := blk_frozen HR8'.out 0
    have g1 := blk_frozen HR8'.out 1
    have g2 := blk_frozen HR8'.out 2
    have g3 := blk_frozen HR8'.out 3
    have g4 := blk_frozen HR8'.out 4
    have z0 : w3.cell? ⟨B4, 0, none⟩ = some (.int .i64 0) := by rw [blk_cell HR4'.out]; rfl
    have z1 : w3.cell? ⟨B4, 1, none⟩ = some (.int .i64 0) := by rw [blk_cell HR4'.out]; rfl
    have z2 : w3.cell? ⟨B4, 2, none⟩ = some (.int .i64 0) := by rw [blk_cell HR4'.out]; rfl
    have z3 : w3.cell? ⟨B4, 3, none⟩ = some (.int .i64 0) := by rw [blk_cell HR4'.out]; rfl
    have z4 : w3.cell? ⟨B4, 4, none⟩ = some (.string ⟨#[]⟩) := by rw [blk_cell HR4'.out]; rfl
    have f0 := blk_frozen HR4'.out 0
    have f1 := blk_frozen HR4'.out 1
    have f2 := blk_frozen HR4'.out 2
    have f3 := blk_frozen HR4'.out 3
    have f4 := blk_frozen HR4'.out 4
    have HQ := Lib.hid (accBlk_set HR4'.out (.int .i64 k) (.int .i64 1) (.int .i64 v.kind) (.int .i64 v.num) (.string v.text))
    have HQB := Lib.hid (bel_set (bel_set (bel_set (bel_set (bel_set (HB3.out) (i := 0) hw4 (.int .i64 k)) (i := 1) hw4 (.int .i64 1)) (i := 2) hw4 (.int .i64 v.kind)) (i := 3) hw4 (.int .i64 v.num)) (i := 4) hw4 (.string v.text))
    clear x0 x1
    go_wp2_with fail
    have q0 := blk_cell HQ.out 0
    have q1 := blk_cell HQ.out 1
    have q2 := blk_cell HQ.out 2
    have q3 := blk_cell HQ.out 3
    have q4 := blk_cell HQ.out 4
    exact bodyPost_ret (v := .tuple #[.agg #[.int .i64 k, .int .i64 1, .int .i64 v.kind, .int .i64 v.num, .string v.text], .int .i64 0]) (by simp [results, Tryz.results195, go_sem, q0, q1, q2, q3, q4]) rfl ⟨rfl, HQB.out⟩
  rw [if_neg hi0] at hs
  have hi0' : (0 : Int) < i := by have := HI.out; omega
  have hs1 : AcOk k ⟨k, 1, singV k v⟩ 1 := by
    have := ok_step HK.out (ok_start k) (by decide) HER.out
    unfold stepA mergA at this
    rwa [if_pos rfl] at this
  have hvn := ok_num HK.out hs1 (by decide)
  rw [hsv] at hvn
  have han := ok_num HK.out HOK.out (by have := HI.out; omega)
  have HCO := Lib.hid (fun W => rcombine_any k a.val v W han hvn)
  obtain ⟨C, hC⟩ : ∃ C, combV k a.val v = C := ⟨_, rfl⟩
  rw [hC] at hs HCO
  subst hs
  unfold vlV at HCO
  clear hk0 hsv hi0 hs1 hvn han hC
  go_wp2_with fail
  refine (HCO.out _).mono ?_
  rintro e w5 ⟨rfl, hb5⟩
  have hr8 := (hb5.block _ (blk_lt HR8.out)).trans HR8.out
  have hr4 := (hb5.block _ (blk_lt HR4.out)).trans HR4.out
  have HB5 := Lib.hid (bel_tr HB3.out hb5)
  clear x0 x1 x2 x3 x4 y0 y1 y2 hb5
  have HR85 := Lib.hid hr8
  have HR45 := Lib.hid hr4
  clear hr8 hr4
  have u0 : w5.cell? ⟨B8, 0, none⟩ = some (.int .i64 k) := by rw [blk_cell HR85.out]; rfl
  have u1 : w5.cell? ⟨B8, 1, none⟩ = some (.int .i64 (i + 1)) := by rw [blk_cell HR85.out]; rfl
  have u2 : w5.cell? ⟨B8, 2, none⟩ = some (.int .i64 v.kind) := by rw [blk_cell HR85.out]; rfl
  have u3 : w5.cell? ⟨B8, 3, none⟩ = some (.int .i64 v.num) := by rw [blk_cell HR85.out]; rfl
  have u4 : w5.cell? ⟨B8, 4, none⟩ = some (.string v.text) := by rw [blk_cell HR85.out]; rfl
  have g0 := blk_frozen HR85.out 0
  have g1 := blk_frozen HR85.out 1
  have g2 := blk_frozen HR85.out 2
  have g3 := blk_frozen HR85.out 3
  have g4 := blk_frozen HR85.out 4
  go_upto_region 14 with fail
  refine wp_gen fun w4 e4 => ?_
  have HR8' : Hid (w4.heap[B8]? = some (.cells [.int .i64 k, .int .i64 (i + 1), .int .i64 C.kind, .int .i64 C.num, .string C.text].toArray 240 (0, 0))) := Lib.hid (by rw [e4]; exact blk_set (blk_set (blk_set HR85.out 2 (.int .i64 C.kind)) 3 (.int .i64 C.num)) 4 (.string C.text))
  have HR4' := Lib.hid (other_one (i := 4) h48 (.string C.text) (other_one (i := 3) h48 (.int .i64 C.num) (other_one (i := 2) h48 (.int .i64 C.kind) HR45.out)))
  have HB4 := Lib.hid (bel_set (bel_set (bel_set HB5.out (i := 2) hw8' (.int .i64 C.kind)) (i := 3) hw8' (.int .i64 C.num)) (i := 4) hw8' (.string C.text))
  rw [← e4] at HR4' HB4
  clear e4 u0 u1 u2 u3 u4 g0 g1 g2 g3 g4
  have u0 : w4.cell? ⟨B8, 0, none⟩ = some (.int .i64 k) := by rw [blk_cell HR8'.out]; rfl
  have u1 : w4.cell? ⟨B8, 1, none⟩ = some (.int .i64 (i + 1)) := by rw [blk_cell HR8'.out]; rfl
  have u2 : w4.cell? ⟨B8, 2, none⟩ = some (.int .i64 C.kind) := by rw [blk_cell HR8'.out]; rfl
  have u3 : w4.cell? ⟨B8, 3, none⟩ = some (.int .i64 C.num) := by rw [blk_cell HR8'.out]; rfl
  have u4 : w4.cell? ⟨B8, 4, none⟩ = some (.string C.text) := by rw [blk_cell HR8'.out]; rfl
  have g0 := blk_frozen HR8'.out 0
  have g1 := blk_frozen HR8'.out 1
  have g2 := blk_frozen HR8'.out 2
  have g3 := blk_frozen HR8'.out 3
  have g4 := blk_frozen HR8'.out 4
  have z0 : w4.cell? ⟨B4, 0, none⟩ = some (.int .i64 0) := by rw [blk_cell HR4'.out]; rfl
  have z1 : w4.cell? ⟨B4, 1, none⟩ = some (.int .i64 0) := by rw [blk_cell HR4'.out]; rfl
  have z2 : w4.cell? ⟨B4, 2, none⟩ = some (.int .i64 0) := by rw [blk_cell HR4'.out]; rfl
  have z3 : w4.cell? ⟨B4, 3, none⟩ = some (.int .i64 0) := by rw [blk_cell HR4'.out]; rfl
  have z4 : w4.cell? ⟨B4, 4, none⟩ = some (.string ⟨#[]⟩) := by rw [blk_cell HR4'.out]; rfl
  have f0 := blk_frozen HR4'.out 0
  have f1 := blk_frozen HR4'.out 1
  have f2 := blk_frozen HR4'.out 2
  have f3 := blk_frozen HR4'.out 3
  have f4 := blk_frozen HR4'.out 4
  have HQ := Lib.hid (accBlk_set HR4'.out (.int .i64 k) (.int .i64 (i + 1)) (.int .i64 C.kind) (.int .i64 C.num) (.string C.text))
  have HQB := Lib.hid (bel_set (bel_set (bel_set (bel_set (bel_set (HB4.out) (i := 0) hw4 (.int .i64 k)) (i := 1) hw4 (.int .i64 (i + 1))) (i := 2) hw4 (.int .i64 C.kind)) (i := 3) hw4 (.int .i64 C.num)) (i := 4) hw4 (.string C.text))
  go_wp2_with fail
  have q0 := blk_cell HQ.out 0
  have q1 := blk_cell HQ.out 1
  have q2 := blk_cell HQ.out 2
  have q3 := blk_cell HQ.out 3
  have q4 := blk_cell HQ.out 4
  exact bodyPost_ret (v := .tuple #[.agg #[.int .i64 k, .int .i64 (i + 1), .int .i64 C.kind, .int .i64 C.num, .string C.text], .int .i64 0]) (by simp [results, Tryz.results195, go_sem, q0, q1, q2, q3, q4]) rfl ⟨rfl, HQB.out⟩
end Go.Proofs.YtclpglgigpjfoaaGreatDoor
