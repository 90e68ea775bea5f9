/- The greatest values, as the reference finds them. -/
import Derived.Test.YtgecbjjcjemcgaaDrelax
import Derived.Test.YtgecbjjcjemcgaaDrep
import Derived.StillTailTactics
namespace Go.Proofs.Ytgecbjjcjemcgaa
open Go.RowKit

def greatR (n : Nat) (bs : List Ed) : List Int := if feas n bs = true then sums n bs else []
/-- integers and a verdict are handed back -/
def IntsOk (w : World) (l : List Int) (ok : Bool) (e : Ending) (W : World) : Prop := ∃ v, e = .returned (.tuple #[v, .bool ok]) ∧ IsInts W v l ∧ Below w.heap.size w W

set_option maxRecDepth 100000 in
set_option maxHeartbeats 2000000 in
theorem rgreatest_any (n : Nat) (h16 : 1 ≤ n ∧ n ≤ 6) (bs : List Bd) (v : Value) (w : World) (hl : IsBds w v bs) (hg : good n bs) (hlen : bs.length ≤ 256) :
    Calls Try.prog 72 #[zoneV n v] w (IntsOk w (greatR n (bs.map ed)) (feas n (bs.map ed))) := by
  unfold zoneV
  have HL := Lib.hid hl
  have HG := Lib.hid hg
  have HOK := Lib.hid (good_ok hg)
  obtain ⟨A, c, rfl, h1, h2, hat⟩ := hl
  have hn := len_i64 h1 h2
  have HA := Lib.hid hat
  clear hat h1 h2
  obtain ⟨hn1, hn6⟩ := h16
  have hmk := fun W => make_ints n (by omega) W
  clear hg
  go_enter Try.func72, Try.ntmps72
  go_wp2_with fail
  refine wp_gen ?_
  intro W0 hW0
  have z0 : W0.cell? ⟨w.heap.size, 0, none⟩ = some (.int .i64 (n : Int)) := by rw [hW0]; exact cell_stays (bel_one _ _) ((new_cells (Below.refl _ _)).1 0)
  have z1 : W0.cell? ⟨w.heap.size, 1, none⟩ = some (.slice A bs.length c) := by rw [hW0]; exact cell_stays (bel_one _ _) ((new_cells (Below.refl _ _)).1 1)
  have hb0 : Below w.heap.size w W0 := by rw [hW0]; exact bel_al (bel_one _ _) _
  have r0 : Row W0 (w.heap.size + 1) (List.replicate n 0) := by rw [hW0]; exact heap_new' _ _ _ (by simp)
  have HZ := Lib.hid (And.intro z0 (And.intro z1 (And.intro hb0 r0)))
  clear hW0 z0 z1 hb0 r0
  go_loopw [5] (fun i wr => ∃ r : Nat, r ≤ n + 1 ∧ i = .int .i64 r ∧ Hid (wr.cell? ⟨w.heap.size, 0, none⟩ = some (.int .i64 (n : Int)) ∧ wr.cell? ⟨w.heap.size, 1, none⟩ = some (.slice A bs.length c) ∧ Below w.heap.size w wr ∧ Row wr (w.heap.size + 1) (runs n (bs.map ed) r).d ∧ (r = 0 ∨ (runs n (bs.map ed) r).out ≠ -1))) (fun i _ => n + 1 - (intOf i).toNat)
  case atStart => exact ⟨0, by omega, rfl, HZ.out.1, HZ.out.2.1, HZ.out.2.2.1, HZ.out.2.2.2, .inl rfl⟩
  case round =>
    obtain ⟨r, hr, rfl, HI⟩ := hrel
    have z0 := HI.out.1
    have z1 := HI.out.2.1
    by_cases hlt : r < n + 1
    · have hle : (r : Int) ≤ (n : Int) := by omega
      obtain ⟨s, hs⟩ : ∃ s : Rx, s = ⟨(runs n (bs.map ed) r).d, (runs n (bs.map ed) r).l, -1⟩ := ⟨_, rfl⟩
      have hsd : s.d.length = n := by rw [hs]; exact (runs_len r).1
      have HLOW : Hid (∀ k, low (r * bs.length + k) (relaxK (bs.map ed) s k).d) := Lib.hid (by rw [hs]; exact relaxK_low HG.out (s := ⟨(runs n (bs.map ed) r).d, (runs n (bs.map ed) r).l, -1⟩) (runs_len r).1 (runs_low HG.out r))
      have hmul : r * bs.length ≤ 6 * 256 := Nat.mul_le_mul (by omega) hlen
      have HNX : Hid (runs n (bs.map ed) (r + 1) = relaxK (bs.map ed) s bs.length) := Lib.hid (by rw [hs]; simp only [runs, rround, List.length_map])
      have HR0 : Hid (Row wr (w.heap.size + 1) s.d) := Lib.hid (by rw [hs]; exact HI.out.2.2.2.1)
      have hso : s.out = -1 := by rw [hs]
      clear hs
      go_wp2_with fail
      go_loopw [6, 7] (fun ch i wr' => ∃ k : Nat, k ≤ bs.length ∧ i = .int .i64 k ∧ ch = .bool ((relaxK (bs.map ed) s k).out != -1) ∧ Hid (wr'.cell? ⟨w.heap.size, 0, none⟩ = some (.int .i64 (n : Int)) ∧ wr'.cell? ⟨w.heap.size, 1, none⟩ = some (.slice A bs.length c) ∧ Below w.heap.size w wr' ∧ Row wr' (w.heap.size + 1) (relaxK (bs.map ed) s k).d)) (fun _ i _ => bs.length - (intOf i).toNat)
      case atStart => exact ⟨0, Nat.zero_le _, rfl, by simp [relaxK, hso], z0, z1, HI.out.2.2.1, HR0.out⟩
      case round =>
        obtain ⟨k, hk, rfl, rfl, HJ⟩ := hrel
        replace z0 := HJ.out.1
        replace z1 := HJ.out.2.1
        by_cases hlt2 : k < bs.length
        · have hget := List.getElem?_eq_getElem hlt2
          obtain ⟨bk, hbk⟩ : ∃ b, b = bs[k] := ⟨_, rfl⟩
          rw [← hbk] at hget
          have HE : Hid ((bs.map ed)[k]? = some (ed bk)) := Lib.hid (by rw [List.getElem?_map, hget]; rfl)
          obtain ⟨gx0, gx1, gy0, gy1, gm0, gm1⟩ := HG.out bk (by rw [hbk]; exact List.getElem_mem hlt2)
          obtain ⟨b, o, rfl, p0, p1, p2⟩ := HA.out k bk hget
          clear hget hbk
          have hwb := World.block_lt_of_cell? w _ p0
          replace p0 := cell_stays HJ.out.2.2.1 p0
          replace p1 := cell_stays HJ.out.2.2.1 p1
          replace p2 := cell_stays HJ.out.2.2.1 p2
          obtain ⟨x, y, m⟩ := bk
          simp only [ed] at HE
          simp only at gx0 gx1 gy0 gy1 gm0 gm1 p0 p1 p2 hwb
          obtain ⟨X, rfl⟩ := Int.eq_ofNat_of_zero_le gx0
          obtain ⟨Y, rfl⟩ := Int.eq_ofNat_of_zero_le gy0
          simp only [Int.toNat_natCast] at HE
          have hlk := HLOW.out k
          have hlenk := relaxK_len (bs.map ed) s k
          obtain ⟨S, hS⟩ : ∃ S, S = relaxK (bs.map ed) s k := ⟨_, rfl⟩
          have HS : Hid (relaxK (bs.map ed) s (k + 1) = rstep S k ⟨X, Y, m⟩) := Lib.hid (by rw [relaxK_succ HE.out, hS])
          rw [← hS] at HJ hlk hlenk ⊢
          clear hS
          have hXd : X < S.d.length := by omega
          have hYd : Y < S.d.length := by omega
          have rx := HJ.out.2.2.2.cell hXd
          have ry := HJ.out.2.2.2.cell hYd
          have hly := hlk Y
          obtain ⟨dx, hdx⟩ : ∃ a, a = gd S.d X := ⟨_, rfl⟩
          obtain ⟨dy, hdy⟩ : ∃ a, a = gd S.d Y := ⟨_, rfl⟩
          have HDX := Lib.hid hdx
          have HDY := Lib.hid hdy
          rw [← hdx] at rx
          rw [← hdy] at ry hly
          clear hlk hdx hdy
          have hw : IntKind.i64.wrap (dy + m) = dy + m := IntWalk.i64_in _ (by omega)
          have hbl := World.block_lt_of_cell? wr _ p0
          have hzl := World.block_lt_of_cell? wr _ z0
          have hg1 := HJ.out.2.2.2.lt
          simp only at hbl hzl
          have hk' : (k : Int) < (bs.length : Int) := by omega
          have hXi : (X : Int) < (n : Int) := by omega
          have hYi : (Y : Int) < (n : Int) := by omega
          go_wp2_with fail
          refine wp_gen ?_
          intro W1 hW1
          have hb1 : Below wr.heap.size wr W1 := by rw [hW1]; exact bel_one _ _
          have y0 : W1.cell? ⟨wr.heap.size, 0, none⟩ = some (.int .i64 (X : Int)) := by rw [hW1]; exact (new_cells (Below.refl _ _)).1 0
          have y1 : W1.cell? ⟨wr.heap.size, 1, none⟩ = some (.int .i64 (Y : Int)) := by rw [hW1]; exact (new_cells (Below.refl _ _)).1 1
          have y2 : W1.cell? ⟨wr.heap.size, 2, none⟩ = some (.int .i64 m) := by rw [hW1]; exact (new_cells (Below.refl _ _)).1 2
          clear hW1
          have q0 := cell_stays hb1 z0
          have q1 := cell_stays hb1 z1
          replace rx := cell_stays hb1 rx
          replace ry := cell_stays hb1 ry
          have hrow1 := HJ.out.2.2.2.stays hb1
          have hbel1 := bel_tr HJ.out.2.2.1 hb1
          clear p0 p1 p2
          go_region_held3 (fun W => W.cell? ⟨wr.heap.size, 0, none⟩ = some (.int .i64 (X : Int)) ∧ W.cell? ⟨wr.heap.size, 1, none⟩ = some (.int .i64 (Y : Int)) ∧ W.cell? ⟨wr.heap.size, 2, none⟩ = some (.int .i64 m) ∧ W.cell? ⟨w.heap.size + 1, Y, none⟩ = some (.int .i64 dy) ∧ W.cell? ⟨w.heap.size + 1, X, none⟩ = some (.int .i64 dx)) (exact ⟨y0, y1, y2, ry, rx⟩) (fail)
          by_cases hc : dy + m < dx
          · have HY := Lib.hid (rstep_yes (i := k) (s := S) (b := ⟨X, Y, m⟩) (by simp only; rw [← HDX.out, ← HDY.out]; exact hc))
            go_wp2_with fail
            refine wp_gen ?_
            intro W2 hW2
            have hrow2 : Row W2 (w.heap.size + 1) S.d := by rw [hW2]; exact hrow1
            have hbel2 : Below w.heap.size w W2 := by rw [hW2]; exact hbel1.drew
            replace y0 : W2.cell? ⟨wr.heap.size, 0, none⟩ = some (.int .i64 (X : Int)) := by rw [hW2]; exact y0
            replace y1 : W2.cell? ⟨wr.heap.size, 1, none⟩ = some (.int .i64 (Y : Int)) := by rw [hW2]; exact y1
            replace y2 : W2.cell? ⟨wr.heap.size, 2, none⟩ = some (.int .i64 m) := by rw [hW2]; exact y2
            replace rx : W2.cell? ⟨w.heap.size + 1, X, none⟩ = some (.int .i64 dx) := by rw [hW2]; exact rx
            replace ry : W2.cell? ⟨w.heap.size + 1, Y, none⟩ = some (.int .i64 dy) := by rw [hW2]; exact ry
            replace q0 : W2.cell? ⟨w.heap.size, 0, none⟩ = some (.int .i64 (n : Int)) := by rw [hW2]; exact q0
            replace q1 : W2.cell? ⟨w.heap.size, 1, none⟩ = some (.slice (some ⟨b, o, none⟩) bs.length c) := by rw [hW2]; exact q1
            clear hW2 hrow1 hbel1 hb1
            have f1 := hrow2.frozen X
            go_still_tail 12, (by kernel_rfl)
            change wpList _ _ _ _ _ W2.drew
            go_wp2_with fail
            go_roundw
            case rel =>
              have hne : w.heap.size + 1 ≠ w.heap.size := by omega
              have c0 : (W2.setCell ⟨w.heap.size + 1, X, none⟩ (.int .i64 (dy + m))).cell? ⟨w.heap.size, 0, none⟩ = some (.int .i64 (n : Int)) := by rw [cell_far hne]; exact q0
              have c1 : (W2.setCell ⟨w.heap.size + 1, X, none⟩ (.int .i64 (dy + m))).cell? ⟨w.heap.size, 1, none⟩ = some (.slice (some ⟨b, o, none⟩) bs.length c) := by rw [cell_far hne]; exact q1
              have hr3 := hrow2.set X (dy + m)
              refine ⟨k + 1, by omega, by go_num, ?_, Lib.hid ⟨c0, c1, (bel_set hbel2 (by omega) _).drew, ?_⟩⟩
              · rw [HS.out, HY.out]
                have : ((X : Int) != -1) = true := by rw [bne_iff_ne]; omega
                simp only [this]
              · rw [HS.out, HY.out]
                simp only
                rw [← HDY.out]
                exact hr3
            case measure => simp [intOf]; omega
          · have HN := Lib.hid (rstep_no (i := k) (s := S) (b := ⟨X, Y, m⟩) (by simp only; rw [← HDX.out, ← HDY.out]; exact hc))
            go_wp2_with fail
            go_roundw
            case rel => exact ⟨k + 1, by omega, by go_num, by rw [HS.out, HN.out], Lib.hid ⟨q0, q1, hbel1.drew, by rw [HS.out, HN.out]; exact hrow1⟩⟩
            case measure => simp [intOf]; omega
        · obtain rfl : k = bs.length := by omega
          rw [← HNX.out] at HJ ⊢
          by_cases ho : (runs n (bs.map ed) (r + 1)).out = -1
          · have g0 : ((runs n (bs.map ed) (r + 1)).out != -1) = false := by rw [ho]; rfl
            obtain ⟨f1, f2⟩ := feas_stop (n := n) (bs := bs.map ed) (r := r) (by omega) ho
            have HF1 := Lib.hid f1
            have HF2 := Lib.hid f2
            clear f1 f2 ho
            go_wp2_with fail
            go_ret2
            rw [HF1.out]
            have hin := HJ.out.2.2.2.ints (c := n) (by rw [(runs_len (r + 1)).1]; exact Nat.le_refl _) (by unfold maxLen; omega)
            rw [(runs_len (r + 1)).1] at hin
            refine ⟨_, rfl, ?_, HJ.out.2.2.1⟩
            unfold greatR
            rw [if_pos HF1.out, HF2.out]
            exact hin
          · have g0 : ((runs n (bs.map ed) (r + 1)).out != -1) = true := by simpa using ho
            have HO := Lib.hid ho
            clear ho
            go_wp2_with fail
            go_roundw
            case rel => exact ⟨r + 1, by omega, by go_num, Lib.hid ⟨HJ.out.1, HJ.out.2.1, HJ.out.2.2.1, HJ.out.2.2.2, .inr HO.out⟩⟩
            case measure => simp [intOf]; omega
    · obtain rfl : r = n + 1 := by omega
      have hinf : feas n (bs.map ed) = false := feas_never (by have h := HI.out.2.2.2.2; omega)
      have HINF := Lib.hid hinf
      have hle : ¬ (((n + 1 : Nat) : Int)) ≤ (n : Int) := by omega
      clear hinf
      go_wp2_with fail
      go_ret2
      rw [HINF.out]
      refine ⟨_, rfl, ?_, HI.out.2.2.1⟩
      unfold greatR
      rw [HINF.out]
      exact Sl.nil _ _ _ _ _ (Nat.zero_le _)
end Go.Proofs.Ytgecbjjcjemcgaa
