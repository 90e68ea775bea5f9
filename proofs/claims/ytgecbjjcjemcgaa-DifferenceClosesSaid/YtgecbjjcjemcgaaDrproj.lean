/- Projecting, as the reference does. -/
import Derived.Test.YtgecbjjcjemcgaaDproj
import Derived.Test.YtgecbjjcjemcgaaDrclosed
namespace Go.Proofs.Ytgecbjjcjemcgaa
open Go.RowKit

set_option maxRecDepth 100000 in
set_option maxHeartbeats 4000000 in
theorem rproject_any (n : Int) (hn6 : n ≤ 6) (bs : List Bd) (v : Value) (u : Int) (w : World) (hl : IsBds w v bs) :
    Calls Try.prog 21 #[zoneV n v, .int .i64 u] w (ZoneRet w (projectR n bs u)) := by
  unfold zoneV
  have HL := Lib.hid hl
  obtain ⟨A, c, rfl, -, -, -⟩ := hl
  obtain ⟨e0, he0⟩ : ∃ e, zoneErr n bs = e := ⟨_, rfl⟩
  have HE0 := Lib.hid he0
  by_cases h0 : e0 = 0
  · have g0 : (e0 != 0) = false := by simpa using h0
    obtain ⟨hn1, -, hlen, hgood⟩ := good_of (he0.trans h0)
    have HZ : Hid (zoneErr n bs = 0) := Lib.hid (he0.trans h0)
    obtain ⟨N, rfl⟩ := Int.eq_ofNat_of_zero_le (by omega : 0 ≤ n)
    have HG : Hid (good N bs) := Lib.hid (by rw [Int.toNat_natCast] at hgood; exact hgood)
    clear he0 h0 hgood
    by_cases hu : u < 1 ∨ (N : Int) ≤ u
    · have HR : Hid (projectR N bs u = (0, [], 2)) := Lib.hid (by unfold projectR; rw [if_pos HZ.out, if_pos hu])
      by_cases hu0 : u < 1
      · clear hu
        go_enter Try.func21, Try.ntmps21
        go_wp2_with (go_at_call 33; refine (rzcheck_any _ bs _ _ (HL.out.stays bdAt_stays (bel_al (bel_one _ _) _))).mono ?_; rw [HE0.out]; rintro e w1 ⟨rfl, hb1⟩; obtain ⟨hz, hr, hrf, hbw, hsz⟩ := two_cells hb1; clear hb1)
        rw [HR.out]
        exact bodyPost_ret (v := .tuple #[.agg #[.int .i64 0, .slice none 0 0], .int .i64 2]) (by simp [results, Try.results21, go_sem, hr]) rfl ⟨_, rfl, Sl.nil _ _ _ _ _ (Nat.zero_le _), bel_set (bel_set hbw (by omega) _) (by omega) _⟩
      · have hu1 : (N : Int) ≤ u := by omega
        clear hu
        go_enter Try.func21, Try.ntmps21
        go_wp2_with (go_at_call 33; refine (rzcheck_any _ bs _ _ (HL.out.stays bdAt_stays (bel_al (bel_one _ _) _))).mono ?_; rw [HE0.out]; rintro e w1 ⟨rfl, hb1⟩; obtain ⟨hz, hr, hrf, hbw, hsz⟩ := two_cells hb1; clear hb1)
        rw [HR.out]
        exact bodyPost_ret (v := .tuple #[.agg #[.int .i64 0, .slice none 0 0], .int .i64 2]) (by simp [results, Try.results21, go_sem, hr]) rfl ⟨_, rfl, Sl.nil _ _ _ _ _ (Nat.zero_le _), bel_set (bel_set hbw (by omega) _) (by omega) _⟩
    · have HU := Lib.hid hu
      have hu0 : ¬ u < 1 := by omega
      have hu1 : ¬ (N : Int) ≤ u := by omega
      clear hu
      obtain ⟨⟨l, er⟩, hcl⟩ : ∃ r, closedR N bs = r := ⟨_, rfl⟩
      have HCL := Lib.hid hcl
      clear hcl
      by_cases her : er = 0
      · have g1 : (er != 0) = false := by simpa using her
        have HR : Hid (projectR N bs u = ((N : Int) - 1, projL u l, 0)) := Lib.hid (by
          unfold projectR
          rw [if_pos HZ.out, if_neg HU.out, Int.toNat_natCast, HCL.out]
          simp only
          rw [if_pos her])
        have hll : l.length ≤ 36 := by
          have h := HCL.out
          unfold closedR at h
          have h1 := entE_len (tight N (bs.map ed)) N N
          have h3 : N * N ≤ 6 * 6 := Nat.mul_le_mul (by omega) (by omega)
          split at h
          · split at h
            · injection h with h _; rw [← h]; simp
            · split at h
              · injection h with h _; rw [← h]; omega
              · injection h with h _; rw [← h]; simp
          · injection h with h _; rw [← h]; simp
        have HXY : Hid (∀ b ∈ l, 0 ≤ b.x ∧ b.x < N ∧ 0 ≤ b.y ∧ b.y < N) := Lib.hid (closedR_in HCL.out)
        have hw0 : IntKind.i64.wrap ((N : Int) - 1) = (N : Int) - 1 := IntWalk.i64_in _ (by omega)
        obtain ⟨j0, hj0, hy0, hy1, hy2⟩ := info_parts info_bd
        clear her
        go_enter Try.func21, Try.ntmps21
        go_wp2_with (first
          | (go_at_call 33; refine (rzcheck_any _ bs _ _ (HL.out.stays bdAt_stays (bel_al (bel_one _ _) _))).mono ?_; rw [HE0.out]; rintro e w1 ⟨rfl, hb1⟩; obtain ⟨hz, hr, hrf, hbw, hsz⟩ := two_cells hb1; clear hb1)
          | (go_at_call 46; refine (rclosed_any N ⟨by omega, by omega⟩ bs _ _ (HL.out.stays bdAt_stays hbw) HG.out hlen).mono ?_; rw [HCL.out]; rintro e w2 ⟨v2, rfl, hq2, hb2⟩; simp only at hq2; obtain ⟨A2, c2, rfl, -, -, hat2⟩ := hq2; have HAT := Lib.hid hat2; clear hat2; replace hr := arr_keep hr (by omega : w.heap.size + 1 < w1.heap.size) hb2; have hrf2 : ∀ j, w2.frozen? ⟨w.heap.size + 1, j, none⟩ = false := (fun j => (World.frozen?_of_block (a := ⟨w.heap.size + 1, j, none⟩) (hb2.block _ (by simp only; omega))).trans (hrf j)); have hz2 := arr_keep hz (by omega : w.heap.size < w1.heap.size) hb2; have hs2 := hb2.size; replace hbw := bel_tr hbw hb2; clear hrf hz))
        have HB := Lib.hid hbw
        clear hz2 hbw hb2
        refine wp_gen ?_
        intro W3 hW3
        have hb3 : Below w2.heap.size w2 W3 := by rw [hW3]; exact bel_one _ _
        have o0 : W3.cell? ⟨w2.heap.size, 0, none⟩ = some (.int .i64 ((N : Int) - 1)) := by rw [hW3]; exact (new_cells (Below.refl _ _)).1 0
        have o1 : W3.cell? ⟨w2.heap.size, 1, none⟩ = some (.slice none 0 0) := by rw [hW3]; exact (new_cells (Below.refl _ _)).1 1
        have of : W3.frozen? ⟨w2.heap.size, 1, none⟩ = false := by rw [hW3]; exact (new_cells (Below.refl _ _)).2 1
        have hs3 : W3.heap.size = w2.heap.size + 1 := by rw [hW3]; simp
        have H3 := Lib.hid (And.intro hb3 (And.intro o0 (And.intro o1 of)))
        clear hW3 hb3 o0 o1 of
        go_loopw [10] (fun i wr => ∃ (k : Nat) (vo : Value), k ≤ l.length ∧ i = .int .i64 k ∧ Hid (wr.cell? ⟨w2.heap.size, 1, none⟩ = some vo ∧ wr.ownsRow (w2.heap.size + 1) 56 3 vo (projL u (l.take k)).length (bdc (projL u (l.take k))) ∧ wr.cell? ⟨w2.heap.size, 0, none⟩ = some (.int .i64 ((N : Int) - 1)) ∧ wr.frozen? ⟨w2.heap.size, 1, none⟩ = false ∧ Below w2.heap.size w2 wr)) (fun i _ => l.length - (intOf i).toNat)
        case atStart => exact ⟨0, _, Nat.zero_le _, rfl, H3.out.2.2.1, ⟨rfl, .inl ⟨rfl, rfl⟩⟩, H3.out.2.1, H3.out.2.2.2, H3.out.1⟩
        case round =>
          obtain ⟨k, vo, hk, rfl, HI⟩ := hrel
          have x1 := HI.out.1
          have hbo := World.block_lt_of_cell? wr _ x1
          simp only at hbo
          obtain ⟨Ao, co, hAo⟩ := slice_own HI.out.2.1
          subst hAo
          by_cases hlt : k < l.length
          · have hlt' : (k : Int) < (l.length : Int) := by omega
            have hget := List.getElem?_eq_getElem hlt
            obtain ⟨b, hbk⟩ : ∃ b, b = l[k] := ⟨_, rfl⟩
            rw [← hbk] at hget
            have hin := HXY.out b (by rw [hbk]; exact List.getElem_mem hlt)
            have HGET := Lib.hid hget
            obtain ⟨gb, ob, rfl, p0, p1, p2⟩ := HAT.out k b hget
            clear hget hbk
            replace p0 := cell_stays HI.out.2.2.2.2 p0
            replace p1 := cell_stays HI.out.2.2.2.2 p1
            replace p2 := cell_stays HI.out.2.2.2.2 p2
            have hbl := World.block_lt_of_cell? wr _ p0
            simp only at hbl
            have hpl := projL_len u (l.take k)
            rw [List.length_take] at hpl
            have hwx : IntKind.i64.wrap (b.x - 1) = b.x - 1 := IntWalk.i64_in _ (by omega)
            have hwy : IntKind.i64.wrap (b.y - 1) = b.y - 1 := IntWalk.i64_in _ (by omega)
            by_cases h1 : b.x = u
            · have g2 : (b.x == u) = true := by simpa using h1
              have HP := Lib.hid (projL_no (u := u) HGET.out (by simp [offU, h1]))
              clear h1
              go_wp2_with fail
              go_roundw
              case rel => exact ⟨k + 1, _, by omega, by go_num, by rw [HP.out]; exact Lib.hid ⟨cell_stays (bel_one _ _) x1, ownsRow_below HI.out.2.1 (bel_one _ _), cell_stays (bel_one _ _) HI.out.2.2.1, frozen_stays (bel_one _ _) x1 HI.out.2.2.2.1, bel_al HI.out.2.2.2.2 _⟩⟩
              case measure => simp [intOf]; omega
            · have g2 : (b.x == u) = false := by simpa using h1
              by_cases h2 : b.y = u
              · have g3 : (b.y == u) = true := by simpa using h2
                have HP := Lib.hid (projL_no (u := u) HGET.out (by simp [offU, h2]))
                clear h1 h2
                go_wp2_with fail
                go_roundw
                case rel => exact ⟨k + 1, _, by omega, by go_num, by rw [HP.out]; exact Lib.hid ⟨cell_stays (bel_one _ _) x1, ownsRow_below HI.out.2.1 (bel_one _ _), cell_stays (bel_one _ _) HI.out.2.2.1, frozen_stays (bel_one _ _) x1 HI.out.2.2.2.1, bel_al HI.out.2.2.2.2 _⟩⟩
                case measure => simp [intOf]; omega
              · have g3 : (b.y == u) = false := by simpa using h2
                have HP := Lib.hid (projL_yes (u := u) HGET.out (by simp [offU, h1, h2]))
                clear h1 h2
                by_cases hx : u < b.x
                · by_cases hy : u < b.y
                  · have HRB : Hid (reBd u b = ⟨b.x - 1, b.y - 1, b.most⟩) := Lib.hid (by unfold reBd renum; rw [if_pos hx, if_pos hy])
                    go_wp2_with (at_builtin; refine wpList_app _ rfl (.tmp 77) (.tmp 79) 22 rfl (w2.heap.size + 1) 56 j0 _ 3 24 Try.underlying22 hj0 hy0 hy1 hy2 rfl (by decide) (.slice Ao (projL u (l.take k)).length co) (projL u (l.take k)).length (bdc (projL u (l.take k))) rfl (ownsRow_below HI.out.2.1 (bel_al (bel_one _ _) _)) (some ⟨wr.heap.size + 1, 0, none⟩) 1 1 [.int .i64 (b.x - 1), .int .i64 (b.y - 1), .int .i64 b.most] rfl (src_new' _ [.int .i64 (b.x - 1), .int .i64 (b.y - 1), .int .i64 b.most] _ 1 3 _ (by simp) rfl (by simp [Value.oneCell'])) (by unfold maxLen; omega) (by omega) (by simp; omega) ?_; intro v6 w6 hown6 hg6 hloc6; obtain ⟨A6, c6, rfl⟩ := slice_own hown6; have HO6 := Lib.hid hown6; have hb6 : Below (w2.heap.size + 1) wr w6 := ((bel_al (bel_one wr _) _).mono (by omega)).trans (grown_below hg6 (by simp; omega) (fun g h => (ownsRow_lt HI.out.2.1 h).1)); have y1 := (hb6.cell (p := ⟨w2.heap.size, 1, none⟩) (by simp only; omega)).trans x1; have yf : w6.frozen? ⟨w2.heap.size, 1, none⟩ = false := (World.frozen?_of_block (a := ⟨w2.heap.size, 1, none⟩) (hb6.block _ (by simp only; omega))).trans HI.out.2.2.2.1; have y0 := (hb6.cell (p := ⟨w2.heap.size, 0, none⟩) (by simp only; omega)).trans HI.out.2.2.1; clear hown6 hg6 hloc6)
                    go_roundw
                    case rel =>
                      refine ⟨k + 1, .slice A6 ((projL u (l.take k)).length + 1) c6, by omega, by go_num, Lib.hid ⟨?_, ?_, ?_, ?_, ?_⟩⟩
                      · go_simp
                      · rw [HP.out, HRB.out, List.length_append, bdc_app, bdc_one]
                        have h8 := HO6.out
                        exact ownsRow_kept h8 (fun g hg => Below.heap_setCell w6 ⟨w2.heap.size, 1, none⟩ _ g (by have := (ownsRow_lt h8 hg).1; simp only; omega))
                      · go_simp
                      · simp [yf]
                      · exact bel_set (HI.out.2.2.2.2.trans (hb6.mono (by omega))) (Nat.le_refl _) _
                    case measure => simp [intOf]; omega
                  · have HRB : Hid (reBd u b = ⟨b.x - 1, b.y, b.most⟩) := Lib.hid (by unfold reBd renum; rw [if_pos hx, if_neg hy])
                    go_wp2_with (at_builtin; refine wpList_app _ rfl (.tmp 77) (.tmp 79) 22 rfl (w2.heap.size + 1) 56 j0 _ 3 24 Try.underlying22 hj0 hy0 hy1 hy2 rfl (by decide) (.slice Ao (projL u (l.take k)).length co) (projL u (l.take k)).length (bdc (projL u (l.take k))) rfl (ownsRow_below HI.out.2.1 (bel_al (bel_one _ _) _)) (some ⟨wr.heap.size + 1, 0, none⟩) 1 1 [.int .i64 (b.x - 1), .int .i64 (b.y), .int .i64 b.most] rfl (src_new' _ [.int .i64 (b.x - 1), .int .i64 (b.y), .int .i64 b.most] _ 1 3 _ (by simp) rfl (by simp [Value.oneCell'])) (by unfold maxLen; omega) (by omega) (by simp; omega) ?_; intro v6 w6 hown6 hg6 hloc6; obtain ⟨A6, c6, rfl⟩ := slice_own hown6; have HO6 := Lib.hid hown6; have hb6 : Below (w2.heap.size + 1) wr w6 := ((bel_al (bel_one wr _) _).mono (by omega)).trans (grown_below hg6 (by simp; omega) (fun g h => (ownsRow_lt HI.out.2.1 h).1)); have y1 := (hb6.cell (p := ⟨w2.heap.size, 1, none⟩) (by simp only; omega)).trans x1; have yf : w6.frozen? ⟨w2.heap.size, 1, none⟩ = false := (World.frozen?_of_block (a := ⟨w2.heap.size, 1, none⟩) (hb6.block _ (by simp only; omega))).trans HI.out.2.2.2.1; have y0 := (hb6.cell (p := ⟨w2.heap.size, 0, none⟩) (by simp only; omega)).trans HI.out.2.2.1; clear hown6 hg6 hloc6)
                    go_roundw
                    case rel =>
                      refine ⟨k + 1, .slice A6 ((projL u (l.take k)).length + 1) c6, by omega, by go_num, Lib.hid ⟨?_, ?_, ?_, ?_, ?_⟩⟩
                      · go_simp
                      · rw [HP.out, HRB.out, List.length_append, bdc_app, bdc_one]
                        have h8 := HO6.out
                        exact ownsRow_kept h8 (fun g hg => Below.heap_setCell w6 ⟨w2.heap.size, 1, none⟩ _ g (by have := (ownsRow_lt h8 hg).1; simp only; omega))
                      · go_simp
                      · simp [yf]
                      · exact bel_set (HI.out.2.2.2.2.trans (hb6.mono (by omega))) (Nat.le_refl _) _
                    case measure => simp [intOf]; omega
                · by_cases hy : u < b.y
                  · have HRB : Hid (reBd u b = ⟨b.x, b.y - 1, b.most⟩) := Lib.hid (by unfold reBd renum; rw [if_neg hx, if_pos hy])
                    go_wp2_with (at_builtin; refine wpList_app _ rfl (.tmp 77) (.tmp 79) 22 rfl (w2.heap.size + 1) 56 j0 _ 3 24 Try.underlying22 hj0 hy0 hy1 hy2 rfl (by decide) (.slice Ao (projL u (l.take k)).length co) (projL u (l.take k)).length (bdc (projL u (l.take k))) rfl (ownsRow_below HI.out.2.1 (bel_al (bel_one _ _) _)) (some ⟨wr.heap.size + 1, 0, none⟩) 1 1 [.int .i64 (b.x), .int .i64 (b.y - 1), .int .i64 b.most] rfl (src_new' _ [.int .i64 (b.x), .int .i64 (b.y - 1), .int .i64 b.most] _ 1 3 _ (by simp) rfl (by simp [Value.oneCell'])) (by unfold maxLen; omega) (by omega) (by simp; omega) ?_; intro v6 w6 hown6 hg6 hloc6; obtain ⟨A6, c6, rfl⟩ := slice_own hown6; have HO6 := Lib.hid hown6; have hb6 : Below (w2.heap.size + 1) wr w6 := ((bel_al (bel_one wr _) _).mono (by omega)).trans (grown_below hg6 (by simp; omega) (fun g h => (ownsRow_lt HI.out.2.1 h).1)); have y1 := (hb6.cell (p := ⟨w2.heap.size, 1, none⟩) (by simp only; omega)).trans x1; have yf : w6.frozen? ⟨w2.heap.size, 1, none⟩ = false := (World.frozen?_of_block (a := ⟨w2.heap.size, 1, none⟩) (hb6.block _ (by simp only; omega))).trans HI.out.2.2.2.1; have y0 := (hb6.cell (p := ⟨w2.heap.size, 0, none⟩) (by simp only; omega)).trans HI.out.2.2.1; clear hown6 hg6 hloc6)
                    go_roundw
                    case rel =>
                      refine ⟨k + 1, .slice A6 ((projL u (l.take k)).length + 1) c6, by omega, by go_num, Lib.hid ⟨?_, ?_, ?_, ?_, ?_⟩⟩
                      · go_simp
                      · rw [HP.out, HRB.out, List.length_append, bdc_app, bdc_one]
                        have h8 := HO6.out
                        exact ownsRow_kept h8 (fun g hg => Below.heap_setCell w6 ⟨w2.heap.size, 1, none⟩ _ g (by have := (ownsRow_lt h8 hg).1; simp only; omega))
                      · go_simp
                      · simp [yf]
                      · exact bel_set (HI.out.2.2.2.2.trans (hb6.mono (by omega))) (Nat.le_refl _) _
                    case measure => simp [intOf]; omega
                  · have HRB : Hid (reBd u b = ⟨b.x, b.y, b.most⟩) := Lib.hid (by unfold reBd renum; rw [if_neg hx, if_neg hy])
                    go_wp2_with (at_builtin; refine wpList_app _ rfl (.tmp 77) (.tmp 79) 22 rfl (w2.heap.size + 1) 56 j0 _ 3 24 Try.underlying22 hj0 hy0 hy1 hy2 rfl (by decide) (.slice Ao (projL u (l.take k)).length co) (projL u (l.take k)).length (bdc (projL u (l.take k))) rfl (ownsRow_below HI.out.2.1 (bel_al (bel_one _ _) _)) (some ⟨wr.heap.size + 1, 0, none⟩) 1 1 [.int .i64 (b.x), .int .i64 (b.y), .int .i64 b.most] rfl (src_new' _ [.int .i64 (b.x), .int .i64 (b.y), .int .i64 b.most] _ 1 3 _ (by simp) rfl (by simp [Value.oneCell'])) (by unfold maxLen; omega) (by omega) (by simp; omega) ?_; intro v6 w6 hown6 hg6 hloc6; obtain ⟨A6, c6, rfl⟩ := slice_own hown6; have HO6 := Lib.hid hown6; have hb6 : Below (w2.heap.size + 1) wr w6 := ((bel_al (bel_one wr _) _).mono (by omega)).trans (grown_below hg6 (by simp; omega) (fun g h => (ownsRow_lt HI.out.2.1 h).1)); have y1 := (hb6.cell (p := ⟨w2.heap.size, 1, none⟩) (by simp only; omega)).trans x1; have yf : w6.frozen? ⟨w2.heap.size, 1, none⟩ = false := (World.frozen?_of_block (a := ⟨w2.heap.size, 1, none⟩) (hb6.block _ (by simp only; omega))).trans HI.out.2.2.2.1; have y0 := (hb6.cell (p := ⟨w2.heap.size, 0, none⟩) (by simp only; omega)).trans HI.out.2.2.1; clear hown6 hg6 hloc6)
                    go_roundw
                    case rel =>
                      refine ⟨k + 1, .slice A6 ((projL u (l.take k)).length + 1) c6, by omega, by go_num, Lib.hid ⟨?_, ?_, ?_, ?_, ?_⟩⟩
                      · go_simp
                      · rw [HP.out, HRB.out, List.length_append, bdc_app, bdc_one]
                        have h8 := HO6.out
                        exact ownsRow_kept h8 (fun g hg => Below.heap_setCell w6 ⟨w2.heap.size, 1, none⟩ _ g (by have := (ownsRow_lt h8 hg).1; simp only; omega))
                      · go_simp
                      · simp [yf]
                      · exact bel_set (HI.out.2.2.2.2.trans (hb6.mono (by omega))) (Nat.le_refl _) _
                    case measure => simp [intOf]; omega
          · obtain rfl : k = l.length := by omega
            have x0 := HI.out.2.2.1
            have hrk := arr_keep hr (by omega : w.heap.size + 1 < w2.heap.size) HI.out.2.2.2.2
            have hrfk : ∀ j, wr.frozen? ⟨w.heap.size + 1, j, none⟩ = false := fun j => (World.frozen?_of_block (a := ⟨w.heap.size + 1, j, none⟩) (HI.out.2.2.2.2.block _ (by simp only; omega))).trans (hrf2 j)
            have hne : w.heap.size + 1 ≠ w2.heap.size := by omega
            have HOW := Lib.hid HI.out.2.1
            clear hr hrf2
            go_wp2_with fail
            rw [HR.out]
            refine bodyPost_ret (v := .tuple #[.agg #[.int .i64 ((N : Int) - 1), .slice Ao (projL u (l.take l.length)).length co], .int .i64 0]) (by simp [results, Try.results21, go_sem, hrk]) rfl ?_
            have hbel : Below w2.heap.size w2 wr := HI.out.2.2.2.2
            refine ⟨_, rfl, ?_, bel_set (bel_set (bel_tr HB.out hbel) (by omega) _) (by omega) _⟩
            have h5 : ∀ (W : World), (∀ g, w2.heap.size + 1 ≤ g → g < wr.heap.size → W.heap[g]? = wr.heap[g]?) → IsBds W (.slice Ao (projL u (l.take l.length)).length co) (projL u l) := by
              intro W hW
              have h6 := ownsRow_kept (w' := W) HOW.out (fun g hg => hW g (ownsRow_lt HOW.out hg).1 (ownsRow_lt HOW.out hg).2)
              have h7 := sl_of_means (bds_mean W (projL u (l.take l.length))) (Below.refl _ _) h6
              rw [List.take_length] at h7 ⊢
              exact h7
            refine h5 _ (fun g h1 h2 => ?_)
            rw [Below.heap_setCell _ _ _ _ (by simp only; omega), Below.heap_setCell _ _ _ _ (by simp only; omega)]
      · have g1 : (er != 0) = true := by simpa using her
        have HR : Hid (projectR N bs u = (0, [], er)) := Lib.hid (by
          unfold projectR
          rw [if_pos HZ.out, if_neg HU.out, Int.toNat_natCast, HCL.out]
          simp only
          rw [if_neg her])
        clear her
        go_enter Try.func21, Try.ntmps21
        go_wp2_with (first
          | (go_at_call 33; refine (rzcheck_any _ bs _ _ (HL.out.stays bdAt_stays (bel_al (bel_one _ _) _))).mono ?_; rw [HE0.out]; rintro e w1 ⟨rfl, hb1⟩; obtain ⟨hz, hr, hrf, hbw, hsz⟩ := two_cells hb1; clear hb1)
          | (go_at_call 46; refine (rclosed_any N ⟨by omega, by omega⟩ bs _ _ (HL.out.stays bdAt_stays hbw) HG.out hlen).mono ?_; rw [HCL.out]; rintro e w2 ⟨v2, rfl, -, hb2⟩; replace hr := arr_keep hr (by omega : w.heap.size + 1 < w1.heap.size) hb2; have hrf2 : ∀ j, w2.frozen? ⟨w.heap.size + 1, j, none⟩ = false := (fun j => (World.frozen?_of_block (a := ⟨w.heap.size + 1, j, none⟩) (hb2.block _ (by simp only; omega))).trans (hrf j)); have hs2 := hb2.size; replace hbw := bel_tr hbw hb2; clear hrf))
        rw [HR.out]
        exact bodyPost_ret (v := .tuple #[.agg #[.int .i64 0, .slice none 0 0], .int .i64 er]) (by simp [results, Try.results21, go_sem, hr]) rfl ⟨_, rfl, Sl.nil _ _ _ _ _ (Nat.zero_le _), bel_set (bel_set hbw (by omega) _) (by omega) _⟩
  · have g0 : (e0 != 0) = true := by simpa using h0
    have HR : Hid (projectR n bs u = (0, [], e0)) := Lib.hid (by unfold projectR; rw [he0, if_neg h0])
    clear he0 h0
    go_enter Try.func21, Try.ntmps21
    go_wp2_with (go_at_call 33; refine (rzcheck_any _ bs _ _ (HL.out.stays bdAt_stays (bel_al (bel_one _ _) _))).mono ?_; rw [HE0.out]; rintro e w1 ⟨rfl, hb1⟩; obtain ⟨hz, hr, hrf, hbw, hsz⟩ := two_cells hb1; clear hb1)
    rw [HR.out]
    exact bodyPost_ret (v := .tuple #[.agg #[.int .i64 0, .slice none 0 0], .int .i64 e0]) (by simp [results, Try.results21, go_sem, hr]) rfl ⟨_, rfl, Sl.nil _ _ _ _ _ (Nat.zero_le _), bel_set (bel_set hbw (by omega) _) (by omega) _⟩
end Go.Proofs.Ytgecbjjcjemcgaa
