/- ref.Add and ref.Sum. -/
import Derived.Test.YtlofjcicpkfcdaaGreatDoorLdiff3
namespace Go.Proofs.YtlofjcicpkfcdaaGreatDoor
open Go.RowKit

theorem bel_set' {w W : World} (h : Below w.heap.size w W) {b i : Nat} (hb : w.heap.size ≤ b) (v : Value) : Below w.heap.size w (W.setCell ⟨b, i, none⟩ v) := bel_set h hb v
theorem addR_step {x e : Ety} {d : Bool} {l o R : List Ety} {k : Nat} (he : l[k]? = some e) (h : o ++ addR x d (l.drop k) = R) : o ++ addR x d (e :: l.drop (k + 1)) = R := by
  have hk := (List.getElem?_eq_some_iff.1 he)
  obtain ⟨hk1, rfl⟩ := hk
  rw [← List.drop_eq_getElem_cons hk1]; exact h
theorem addR_t {x e : Ety} {l o R : List Ety} (h : o ++ addR x true (e :: l) = R) : (if e.n = 0 then o else o ++ [e]) ++ addR x true l = R := by
  simp only [addR] at h
  by_cases hz : e.n = 0
  · rw [if_pos hz] at h ⊢; simpa using h
  · rw [if_neg hz] at h ⊢; simpa using h
theorem addR_lt {x e : Ety} {l o R : List Ety} (hc : entC x e < 0) (h : o ++ addR x false (e :: l) = R) : (if e.n = 0 then o ++ [x] else o ++ [x] ++ [e]) ++ addR x true l = R := by
  simp only [addR] at h
  rw [if_pos hc] at h
  by_cases hz : e.n = 0
  · rw [if_pos hz] at h ⊢; simpa using h
  · rw [if_neg hz] at h ⊢; simpa using h
theorem addR_eq {x e : Ety} {l o R : List Ety} (hc : entC x e = 0) (h : o ++ addR x false (e :: l) = R) : (if e.n + x.n = 0 then o else o ++ [⟨e.q, e.bs, e.n + x.n⟩]) ++ addR x true l = R := by
  simp only [addR] at h
  rw [if_neg (by omega), if_pos hc] at h
  by_cases hz : e.n + x.n = 0
  · rw [if_pos hz] at h ⊢; simpa using h
  · rw [if_neg hz] at h ⊢; simpa using h
theorem addR_gt {x e : Ety} {l o R : List Ety} (hc : 0 < entC x e) (h : o ++ addR x false (e :: l) = R) : (if e.n = 0 then o else o ++ [e]) ++ addR x false l = R := by
  simp only [addR] at h
  rw [if_neg (by omega), if_neg (by omega)] at h
  by_cases hz : e.n = 0
  · rw [if_pos hz] at h ⊢; simpa using h
  · rw [if_neg hz] at h ⊢; simpa using h

set_option maxRecDepth 100000 in
set_option maxHeartbeats 8000000 in
theorem radd_any (l : List Ety) (x : Ety) (vl vx : Value) (w : World) (hl : IsEnts w vl l) (hx : IsBnds w vx x.bs) (hlen : l.length ≤ 1000000) (hbl : ∀ e ∈ l, -1000000000000000 ≤ e.n ∧ e.n ≤ 1000000000000000) (hbx : -1000000000000000 ≤ x.n ∧ x.n ≤ 1000000000000000) :
    Calls Tryz.prog 25 #[vl, .agg #[.int .i64 x.q, vx, .int .i64 x.n]] w fun e w' => ∃ v', e = .returned v' ∧ IsEnts w' v' (addE l x) ∧ Below w.heap.size w w' := by
  have HX := Lib.hid hx
  have HBL := Lib.hid hbl
  obtain ⟨Ax, cx, rfl, -⟩ := hx
  obtain ⟨A, c, rfl, h1, h2, hat⟩ := hl
  have hn := len_i64 h1 h2
  have HL := Lib.hid hat
  obtain ⟨j0, hj0, hy0, hy1, hy2⟩ := info_parts info_ent
  clear hat h1 h2 hbl
  obtain ⟨R, hR⟩ : ∃ R, addE l x = R := ⟨_, rfl⟩
  rw [hR]
  obtain ⟨d0, hd0⟩ : ∃ d, (x.n == 0) = d := ⟨_, rfl⟩
  have HR0 : Hid (addR x d0 l = R) := Lib.hid (by rw [← hd0]; exact hR)
  clear hR
  go_enter Tryz.func25, Tryz.ntmps25
  go_wp2_with fail
  refine wp_gen fun w0 e0 => ?_
  have hb0 : Below w.heap.size w w0 := by rw [e0]; exact (by repeat (first | exact Below.refl _ _ | assumption | refine Below.drew ?_ | refine bel_al ?_ _ | refine bel_set ?_ (by omega) _ | refine bel_tr ?_ (by assumption)))
  have p0 : w0.cell? ⟨w.heap.size, 0, none⟩ = some (.int .i64 x.q) := by rw [e0]; go_simp
  have p1 : w0.cell? ⟨w.heap.size, 1, none⟩ = some (.slice Ax x.bs.length cx) := by rw [e0]; go_simp
  have p2 : w0.cell? ⟨w.heap.size, 2, none⟩ = some (.int .i64 x.n) := by rw [e0]; go_simp
  obtain ⟨X, hX⟩ : ∃ X, w.heap.size = X := ⟨_, rfl⟩
  rw [hX] at p0 p1 p2 ⊢
  have HP := Lib.hid (And.intro p0 (And.intro p1 p2))
  have hX0 : X < w0.heap.size := by have := World.block_lt_of_cell? w0 ⟨X, 0, none⟩ p0; simpa using this
  have hwX : w.heap.size ≤ X := by omega
  have HWX := Lib.hid hwX
  have HB0 := Lib.hid hb0
  clear e0 p0 p1 p2 hX hd0 hb0 hwX
  go_loopw [5, 6, 7] (fun ov dv iv wr => ∃ (k : Nat) (o : List Ety) (xs : List Value) (dn : Bool), k ≤ l.length ∧ iv = .int .i64 k ∧ dv = .bool dn ∧ o.length ≤ 2 * k + 1 ∧ Hid (o ++ addR x dn (l.drop k) = R ∧ wr.ownsRow w0.heap.size 45 3 ov o.length xs ∧ Means EntAt 3 w xs o ∧ Below w0.heap.size w0 wr)) (fun _ _ i _ => l.length - (intOf i).toNat)
  case atStart => exact ⟨0, [], [], d0, Nat.zero_le _, rfl, rfl, by simp, Lib.hid ⟨HR0.out, ⟨by simp, .inl ⟨rfl, rfl⟩⟩, Means.nil, Below.refl _ _⟩⟩
  case round =>
    obtain ⟨k, o1, xs, dn, hk, rfl, rfl, hol, hI⟩ := hrel
    have hbr := hI.out.2.2.2
    have q0 := cell_stays hbr HP.out.1
    have q1 := cell_stays hbr HP.out.2.1
    have q2 := cell_stays hbr HP.out.2.2
    have hXr : X < wr.heap.size := Nat.lt_of_lt_of_le hX0 hbr.size
    have hbwr : Below w.heap.size w wr := HB0.out.trans (hbr.mono HB0.out.size)
    by_cases hlt : k < l.length
    · have hk' : (k : Int) < (l.length : Int) := by omega
      obtain ⟨b, o, rfl, v', hv', c0w, c1w, c2w⟩ := HL.out k l[k] (List.getElem?_eq_getElem hlt)
      have hget := Lib.hid (List.getElem?_eq_getElem hlt)
      have hbe := HBL.out l[k] (List.getElem_mem hlt)
      obtain ⟨e, he⟩ : ∃ e, e = l[k] := ⟨_, rfl⟩
      rw [← he] at hget c0w c2w hv' hbe
      have HV := Lib.hid hv'
      obtain ⟨A', c', rfl, -⟩ := hv'
      have hbw0 : b < w.heap.size := World.block_lt_of_cell? w ⟨b, _, none⟩ c0w
      have HC := Lib.hid (fun W (hW : Below w.heap.size w W) => (show (W.cell? ⟨b, o + k * 3, none⟩ = some (.int .i64 e.q) ∧ W.cell? ⟨b, o + k * 3 + 1, none⟩ = some (.slice A' e.bs.length c') ∧ W.cell? ⟨b, o + k * 3 + 2, none⟩ = some (.int .i64 e.n)) from ⟨cell_stays hW c0w, cell_stays hW c1w, cell_stays hW c2w⟩))
      obtain ⟨c0, c1, c2⟩ := HC.out wr hbwr
      have hstep := addR_step hget.out hI.out.1
      have HST := Lib.hid hstep
      have HBW := Lib.hid hbw0
      have HBWR := Lib.hid hbwr
      have HBR := Lib.hid hbr
      have HOW := Lib.hid hI.out.2.1
      have HME := Lib.hid hI.out.2.2.1
      clear he hstep c0w c1w c2w hbw0 hI hbr hbwr
      cases dn with
      | true =>
        go_wp2_with fail
        refine wp_region_F (fun _ => True) (by repeat (first | exact grows_cell _ _ _ | exact grows_true | refine grows_and ?_ ?_)) (by kernel_rfl) (by kernel_rfl) ?hF ?_; (case hF => (first | exact ⟨‹_›, ‹_›⟩ | (go_simp; done) | (simp [*]; done) | (repeat' (first | (refine And.intro ?_ ?_) | (go_simp; done) | exact cell_stays (bel_al (Below.refl _ _) _) (by assumption) | assumption)))); intro hne hxx; have hG : Hid (Grows (fun _ => True)) := (by repeat (first | exact grows_cell _ _ _ | exact grows_true | refine grows_and ?_ ?_)); (repeat (go_big_quiet_step (fail))); clear hG hxx hne; refine wpQuiet_nil ?_; rintro wq ⟨⟨w', hb', hF'⟩, rfl⟩
        clear hF' c0 c1 c2 q0 q1 q2
        have hbw' : Below w.heap.size w wq := bel_tr HBWR.out hb'
        obtain ⟨c0, c1, c2⟩ := HC.out wq hbw'
        have hbl' : b < wq.heap.size := Nat.lt_of_lt_of_le HBW.out hbw'.size
        have hnb : b ≠ wq.heap.size := by omega
        have hnb' : wq.heap.size ≠ b := by omega
        have HB1 := Lib.hid (bel_tr HBR.out hb')
        have HO1 := Lib.hid (ownsRow_below HOW.out hb')
        have hsz := HB1.out.size
        clear hb'
        by_cases hz : e.n = 0
        · have hz' : (e.n != 0) = false := by simpa using hz
          have HS := Lib.hid (addR_t HST.out)
          rw [if_pos hz] at HS
          clear hz
          go_wp2_with fail
          go_roundw
          case rel => exact ⟨k + 1, o1, xs, true, by omega, by go_num, rfl, by omega, Lib.hid ⟨HS.out, ownsRow_below HO1.out (by repeat (first | exact Below.refl _ _ | assumption | refine Below.drew ?_ | refine bel_al ?_ _ | refine bel_set ?_ (by omega) _ | refine bel_tr ?_ (by assumption))), HME.out, bel_tr HB1.out (by repeat (first | exact Below.refl _ _ | assumption | refine Below.drew ?_ | refine bel_al ?_ _ | refine bel_set ?_ (by omega) _ | refine bel_tr ?_ (by assumption)))⟩⟩
          case measure => simp [intOf]; omega
        · have hz' : (e.n != 0) = true := by simpa using hz
          have HS := Lib.hid (addR_t HST.out)
          rw [if_neg hz] at HS
          clear hz
          go_wp2_with (at_builtin; refine wpList_app _ rfl (.tmp 54) (.tmp 56) 22 rfl w0.heap.size 45 j0 _ 3 40 Tryz.underlying22 hj0 hy0 hy1 hy2 rfl (by decide) u5 o1.length xs rfl (ownsRow_below HO1.out (bel_al (bel_one _ _) _)) (some ⟨wq.heap.size + 1, 0, none⟩) 1 1 [.int .i64 e.q, .slice A' e.bs.length c', .int .i64 e.n] rfl (src_new' _ [.int .i64 e.q, .slice A' e.bs.length c', .int .i64 e.n] _ 1 3 _ (by simp) rfl (by simp [Value.oneCell'])) (by unfold maxLen; omega) (by omega) (by simp; omega) ?_; intro v7 w7 hown7 hg7 hloc7)
          have hb7 : Below w0.heap.size w0 w7 := (bel_al (bel_al HB1.out _) _).trans (grown_below hg7 (by simp; omega) (fun g h => (ownsRow_lt HO1.out h).1))
          have HO7 := Lib.hid hown7
          clear hown7 hg7 hloc7
          go_wp2_with fail
          go_roundw
          case rel => exact ⟨k + 1, o1 ++ [e], xs ++ [.int .i64 e.q, .slice A' e.bs.length c', .int .i64 e.n], true, by omega, by go_num, rfl, by simp; omega, Lib.hid ⟨HS.out, by simpa using HO7.out, HME.out.app (ent_one_mean HV.out), hb7⟩⟩
          case measure => simp [intOf]; omega
      | false =>
        obtain ⟨r, hr⟩ : ∃ r, entC x e = r := ⟨_, rfl⟩
        have HRR := Lib.hid (fun W (hW : Below wr.heap.size wr W) => gr_bel (rorder_any x e _ _ W (HX.out.stays bndAt_stays (bel_tr HBWR.out hW)) (HV.out.stays bndAt_stays (bel_tr HBWR.out hW))) hr)
        unfold entV at HRR
        have HR := Lib.hid hr
        clear hr
        go_wp2_with fail
        refine wp_region_F (fun W => W.cell? ⟨X, 0, none⟩ = some (.int .i64 x.q) ∧ W.cell? ⟨X, 1, none⟩ = some (.slice Ax x.bs.length cx) ∧ W.cell? ⟨X, 2, none⟩ = some (.int .i64 x.n) ∧ W.cell? ⟨b, o + k * 3, none⟩ = some (.int .i64 e.q) ∧ W.cell? ⟨b, o + k * 3 + 1, none⟩ = some (.slice A' e.bs.length c') ∧ W.cell? ⟨b, o + k * 3 + 2, none⟩ = some (.int .i64 e.n)) (by repeat (first | exact grows_cell _ _ _ | exact grows_true | refine grows_and ?_ ?_)) (by kernel_rfl) (by kernel_rfl) ?hF ?_; (case hF => (first | exact ⟨‹_›, ‹_›⟩ | (go_simp; done) | (simp [*]; done) | (repeat' (first | (refine And.intro ?_ ?_) | (go_simp; done) | exact cell_stays (bel_al (Below.refl _ _) _) (by assumption) | assumption)))); intro hne hxx; have hG : Hid (Grows (fun W => W.cell? ⟨X, 0, none⟩ = some (.int .i64 x.q) ∧ W.cell? ⟨X, 1, none⟩ = some (.slice Ax x.bs.length cx) ∧ W.cell? ⟨X, 2, none⟩ = some (.int .i64 x.n) ∧ W.cell? ⟨b, o + k * 3, none⟩ = some (.int .i64 e.q) ∧ W.cell? ⟨b, o + k * 3 + 1, none⟩ = some (.slice A' e.bs.length c') ∧ W.cell? ⟨b, o + k * 3 + 2, none⟩ = some (.int .i64 e.n))) := (by repeat (first | exact grows_cell _ _ _ | exact grows_true | refine grows_and ?_ ?_)); (repeat (go_big_quiet_step ((go_at_call 36; exact cls_callB hG (fun W hW => HRR.out W hW))))); clear hG hxx hne; refine wpQuiet_nil ?_; rintro wq ⟨⟨w', hb', hF'⟩, rfl⟩
        clear c0 c1 c2 q0 q1 q2
        obtain ⟨q0, q1, q2, c0, c1, c2⟩ := hF'
        have hbw' : Below w.heap.size w wq := bel_tr HBWR.out hb'
        have hbl' : b < wq.heap.size := Nat.lt_of_lt_of_le HBW.out hbw'.size
        have hXl' : X < wq.heap.size := Nat.lt_of_lt_of_le hXr hb'.size
        have hnb : b ≠ wq.heap.size := by omega
        have hnb' : wq.heap.size ≠ b := by omega
        have hnx : X ≠ wq.heap.size := by omega
        have hnx' : wq.heap.size ≠ X := by omega
        have HB1 := Lib.hid (bel_tr HBR.out hb')
        have HO1 := Lib.hid (ownsRow_below HOW.out hb')
        have HBW1 := Lib.hid hbw'
        have HBP := Lib.hid hb'
        have hsz := HB1.out.size
        clear hb' hbw'
        by_cases hr0 : r < 0
        · have hd1 : decide (r < 0) = true := by simpa using hr0
          have hle := addR_lt (by rw [HR.out]; exact hr0) HST.out
          by_cases hz : e.n = 0
          · have hz' : (e.n != 0) = false := by simpa using hz
            rw [if_pos hz] at hle
            have HS := Lib.hid hle
            clear hz hle
            go_wp2_with (at_builtin; refine wpList_app _ rfl (.tmp 29) (.tmp 31) 22 rfl w0.heap.size 45 j0 _ 3 40 Tryz.underlying22 hj0 hy0 hy1 hy2 rfl (by decide) u5 o1.length xs rfl (ownsRow_below HO1.out (bel_one _ _)) (some ⟨wq.heap.size, 0, none⟩) 1 1 [.int .i64 x.q, .slice Ax x.bs.length cx, .int .i64 x.n] rfl (src_new' _ [.int .i64 x.q, .slice Ax x.bs.length cx, .int .i64 x.n] _ 1 3 _ (by simp) rfl (by simp [Value.oneCell'])) (by unfold maxLen; omega) (by omega) (by simp; omega) ?_; intro v7 w7 hown7 hg7 hloc7; have hb7 : Below w0.heap.size w0 w7 := (bel_al HB1.out _).trans (grown_below hg7 (by simp; omega) (fun g h => (ownsRow_lt HO1.out h).1)); have hbw7 : Below w.heap.size w w7 := HB0.out.trans (hb7.mono HB0.out.size); have HO7 := Lib.hid hown7; have HB7 := Lib.hid hb7; clear hown7 hg7 hloc7 c0 c1 c2 q0 q1 q2 hnb hnb' hnx hnx' hbl' hXl'; obtain ⟨c0, c1, c2⟩ := HC.out w7 hbw7; have hbl' : b < w7.heap.size := Nat.lt_of_lt_of_le HBW.out hbw7.size; have hnb : b ≠ w7.heap.size := (by omega); have hnb' : w7.heap.size ≠ b := (by omega); have hsz7 := hb7.size; clear hb7 hbw7)
            go_roundw
            case rel => exact ⟨k + 1, o1 ++ [x], xs ++ [.int .i64 x.q, .slice Ax x.bs.length cx, .int .i64 x.n], true, by omega, by go_num, rfl, by simp; omega, Lib.hid ⟨HS.out, by simpa using ownsRow_below HO7.out (by repeat (first | exact Below.refl _ _ | assumption | refine Below.drew ?_ | refine bel_al ?_ _ | refine bel_set ?_ (by omega) _ | refine bel_tr ?_ (by assumption))), HME.out.app (ent_one_mean HX.out), bel_tr HB7.out (by repeat (first | exact Below.refl _ _ | assumption | refine Below.drew ?_ | refine bel_al ?_ _ | refine bel_set ?_ (by omega) _ | refine bel_tr ?_ (by assumption)))⟩⟩
            case measure => simp [intOf]; omega
          · have hz' : (e.n != 0) = true := by simpa using hz
            rw [if_neg hz] at hle
            have HS := Lib.hid hle
            clear hz hle
            go_wp2_with (first | (at_builtin; refine wpList_app _ rfl (.tmp 29) (.tmp 31) 22 rfl w0.heap.size 45 j0 _ 3 40 Tryz.underlying22 hj0 hy0 hy1 hy2 rfl (by decide) u5 o1.length xs rfl (ownsRow_below HO1.out (bel_one _ _)) (some ⟨wq.heap.size, 0, none⟩) 1 1 [.int .i64 x.q, .slice Ax x.bs.length cx, .int .i64 x.n] rfl (src_new' _ [.int .i64 x.q, .slice Ax x.bs.length cx, .int .i64 x.n] _ 1 3 _ (by simp) rfl (by simp [Value.oneCell'])) (by unfold maxLen; omega) (by omega) (by simp; omega) ?_; intro v7 w7 hown7 hg7 hloc7; have hb7 : Below w0.heap.size w0 w7 := (bel_al HB1.out _).trans (grown_below hg7 (by simp; omega) (fun g h => (ownsRow_lt HO1.out h).1)); have hbw7 : Below w.heap.size w w7 := HB0.out.trans (hb7.mono HB0.out.size); have HO7 := Lib.hid hown7; have HB7 := Lib.hid hb7; clear hown7 hg7 hloc7 c0 c1 c2 q0 q1 q2 hnb hnb' hnx hnx' hbl' hXl'; obtain ⟨c0, c1, c2⟩ := HC.out w7 hbw7; have hbl' : b < w7.heap.size := Nat.lt_of_lt_of_le HBW.out hbw7.size; have hnb : b ≠ w7.heap.size := (by omega); have hnb' : w7.heap.size ≠ b := (by omega); have hsz7 := hb7.size; clear hb7 hbw7) | (at_builtin; refine wpList_app _ rfl (.tmp 54) (.tmp 56) 22 rfl w0.heap.size 45 j0 _ 3 40 Tryz.underlying22 hj0 hy0 hy1 hy2 rfl (by decide) v7 (o1.length + 1) (xs ++ [.int .i64 x.q, .slice Ax x.bs.length cx, .int .i64 x.n]) rfl (ownsRow_below HO7.out (bel_al (bel_one _ _) _)) (some ⟨w7.heap.size + 1, 0, none⟩) 1 1 [.int .i64 e.q, .slice A' e.bs.length c', .int .i64 e.n] rfl (src_new' _ [.int .i64 e.q, .slice A' e.bs.length c', .int .i64 e.n] _ 1 3 _ (by simp) rfl (by simp [Value.oneCell'])) (by unfold maxLen; omega) (by omega) (by simp; omega) ?_; intro v8 w8 hown8 hg8 hloc8))
            have hb8 : Below w0.heap.size w0 w8 := (bel_al (bel_al HB7.out _) _).trans (grown_below hg8 (by simp; omega) (fun g h => (ownsRow_lt HO7.out h).1))
            have HO8 := Lib.hid hown8
            clear hown8 hg8 hloc8
            go_wp2_with fail
            go_roundw
            case rel => exact ⟨k + 1, o1 ++ [x] ++ [e], xs ++ [.int .i64 x.q, .slice Ax x.bs.length cx, .int .i64 x.n] ++ [.int .i64 e.q, .slice A' e.bs.length c', .int .i64 e.n], true, by omega, by go_num, rfl, by simp; omega, Lib.hid ⟨HS.out, by simpa using HO8.out, (HME.out.app (ent_one_mean HX.out)).app (ent_one_mean HV.out), hb8⟩⟩
            case measure => simp [intOf]; omega
        · have hd1 : decide (r < 0) = false := by simpa using hr0
          have hr0' : 0 ≤ r := by omega
          go_wp2_with fail
          refine calls_gen fun W9 e9 => ?_
          have z0 : W9.cell? ⟨wq.heap.size, 0, none⟩ = some (.int .i64 e.q) := by rw [e9]; go_simp
          have z1 : W9.cell? ⟨wq.heap.size, 1, none⟩ = some (.slice A' e.bs.length c') := by rw [e9]; go_simp
          have z2 : W9.cell? ⟨wq.heap.size, 2, none⟩ = some (.int .i64 e.n) := by rw [e9]; go_simp
          have zb : W9.heap[wq.heap.size]? = some (.cells [.int .i64 e.q, .slice A' e.bs.length c', .int .i64 e.n].toArray 45 (0, 0)) := by rw [e9]; exact heap_new' _ _ _ rfl
          have hb9 : Below wq.heap.size wq W9 := by rw [e9]; exact (by repeat (first | exact Below.refl _ _ | assumption | refine Below.drew ?_ | refine bel_al ?_ _ | refine bel_set ?_ (by omega) _ | refine bel_tr ?_ (by assumption)))
          clear e9
          refine (HRR.out W9 (bel_tr HBP.out hb9)).mono ?_
          rintro _ w9 ⟨rfl, hb99⟩
          replace z0 := cell_stays hb99 z0
          replace z1 := cell_stays hb99 z1
          replace z2 := cell_stays hb99 z2
          have zb9 := (hb99.block wq.heap.size (blk_lt zb)).trans zb
          have zf := blk_frozen zb9 2
          have hb19 := bel_tr hb9 hb99
          replace q0 := cell_stays hb19 q0
          replace q1 := cell_stays hb19 q1
          replace q2 := cell_stays hb19 q2
          have HB9 := Lib.hid (bel_tr HB1.out hb19)
          have HO9 := Lib.hid (ownsRow_below HO1.out hb19)
          have hl9 := blk_lt zb9
          have hXl9 : X < w9.heap.size := by omega
          have hsz9 := HB9.out.size
          obtain ⟨Y, hY⟩ : ∃ Y, wq.heap.size = Y := ⟨_, rfl⟩
          rw [hY] at z0 z1 z2 zb9 zf hl9 hnx hnx' hXl' ⊢
          have hYw : w0.heap.size ≤ Y := by omega
          have HZB := Lib.hid zb9
          have hYg : ∀ g, u5.ownBlock = some g → g < Y := fun g h => by have := (ownsRow_lt HO1.out h).2; omega
          have HYG := Lib.hid hYg
          have HOS := Lib.hid (fun u => ownsRow_kept (w' := w9.setCell ⟨Y, 2, none⟩ u) HO9.out (fun g hg => Below.heap_setCell _ _ _ _ (by have := hYg g hg; simp only; omega)))
          clear hb99 zb zb9 hb9 hb19 c0 c1 c2 hnb hnb' hbl' hY hYg
          have hnw : Y ≠ w9.heap.size := by omega
          have hnw' : w9.heap.size ≠ Y := by omega
          by_cases hr1 : r = 0
          · have hd2 : (r == 0) = true := by simpa using hr1
            have hle := addR_eq (by rw [HR.out]; exact hr1) HST.out
            obtain ⟨m, hm⟩ : ∃ m, e.n + x.n = m := ⟨_, rfl⟩
            have hw1 : IntKind.i64.wrap (e.n + x.n) = m := by rw [IntWalk.i64_in _ (by omega)]; exact hm
            rw [hm] at hle
            have hmb : -2000000000000000 ≤ m ∧ m ≤ 2000000000000000 := by omega
            clear hr1 hm
            by_cases hz : m = 0
            · have hz' : (m != 0) = false := by simpa using hz
              rw [if_pos hz] at hle
              have HS := Lib.hid hle
              clear hz hle
              go_wp2_with fail
              go_roundw
              case rel => exact ⟨k + 1, o1, xs, true, by omega, by go_num, rfl, by omega, Lib.hid ⟨HS.out, HOS.out (.int .i64 m), HME.out, bel_set' HB9.out hYw _⟩⟩
              case measure => simp [intOf]; omega
            · have hz' : (m != 0) = true := by simpa using hz
              rw [if_neg hz] at hle
              have HS := Lib.hid hle
              clear hz hle
              go_wp2_with (at_builtin; refine wpList_app _ rfl (.tmp 54) (.tmp 56) 22 rfl w0.heap.size 45 j0 _ 3 40 Tryz.underlying22 hj0 hy0 hy1 hy2 rfl (by decide) u5 o1.length xs rfl (ownsRow_below (HOS.out (.int .i64 m)) (bel_one _ _)) (some ⟨w9.heap.size, 0, none⟩) 1 1 [.int .i64 e.q, .slice A' e.bs.length c', .int .i64 m] rfl (src_new' _ [.int .i64 e.q, .slice A' e.bs.length c', .int .i64 m] _ 1 3 _ (by simp) rfl (by simp [Value.oneCell'])) (by unfold maxLen; omega) (by omega) (by simp; omega) ?_; intro v7 w7 hown7 hg7 hloc7)
              have hb7 : Below w0.heap.size w0 w7 := (bel_al (bel_set' HB9.out hYw _) _).trans (grown_below hg7 (by simp; omega) (fun g h => (ownsRow_lt HO9.out h).1))
              have HO7 := Lib.hid hown7
              clear hown7 hg7 hloc7
              go_wp2_with fail
              go_roundw
              case rel => exact ⟨k + 1, o1 ++ [⟨e.q, e.bs, m⟩], xs ++ [.int .i64 e.q, .slice A' e.bs.length c', .int .i64 m], true, by omega, by go_num, rfl, by simp; omega, Lib.hid ⟨HS.out, by simpa using HO7.out, HME.out.app (ent_one_mean (bs := e.bs) HV.out), hb7⟩⟩
              case measure => simp [intOf]; omega
          · have hd2 : (r == 0) = false := by simpa using hr1
            have hle := addR_gt (by rw [HR.out]; omega) HST.out
            clear hr1
            by_cases hz : e.n = 0
            · have hz' : (e.n != 0) = false := by simpa using hz
              rw [if_pos hz] at hle
              have HS := Lib.hid hle
              clear hz hle
              go_wp2_with fail
              go_roundw
              case rel => exact ⟨k + 1, o1, xs, false, by omega, by go_num, rfl, by omega, Lib.hid ⟨HS.out, HO9.out, HME.out, HB9.out⟩⟩
              case measure => simp [intOf]; omega
            · have hz' : (e.n != 0) = true := by simpa using hz
              rw [if_neg hz] at hle
              have HS := Lib.hid hle
              clear hz hle
              go_wp2_with (at_builtin; refine wpList_app _ rfl (.tmp 54) (.tmp 56) 22 rfl w0.heap.size 45 j0 _ 3 40 Tryz.underlying22 hj0 hy0 hy1 hy2 rfl (by decide) u5 o1.length xs rfl (ownsRow_below HO9.out (bel_one _ _)) (some ⟨w9.heap.size, 0, none⟩) 1 1 [.int .i64 e.q, .slice A' e.bs.length c', .int .i64 e.n] rfl (src_new' _ [.int .i64 e.q, .slice A' e.bs.length c', .int .i64 e.n] _ 1 3 _ (by simp) rfl (by simp [Value.oneCell'])) (by unfold maxLen; omega) (by omega) (by simp; omega) ?_; intro v7 w7 hown7 hg7 hloc7)
              have hb7 : Below w0.heap.size w0 w7 := (bel_al HB9.out _).trans (grown_below hg7 (by simp; omega) (fun g h => (ownsRow_lt HO9.out h).1))
              have HO7 := Lib.hid hown7
              clear hown7 hg7 hloc7
              go_wp2_with fail
              go_roundw
              case rel => exact ⟨k + 1, o1 ++ [e], xs ++ [.int .i64 e.q, .slice A' e.bs.length c', .int .i64 e.n], false, by omega, by go_num, rfl, by simp; omega, Lib.hid ⟨HS.out, by simpa using HO7.out, HME.out.app (ent_one_mean HV.out), hb7⟩⟩
              case measure => simp [intOf]; omega
    · have hk' : ¬ (k : Int) < (l.length : Int) := by omega
      have hke : k = l.length := by omega
      have hI1 := hI.out.1
      rw [hke, List.drop_length] at hI1
      have HI1 := Lib.hid hI1
      have HI2 := Lib.hid hI.out.2
      clear hI hI1 hke hbr
      cases dn with
      | true =>
        have hR : o1 = R := by have := HI1.out; simpa [addR] using this
        have hm := sl_of_means HI2.out.2.1 hbwr HI2.out.1
        rw [hR] at hm
        have HM := Lib.hid hm
        obtain ⟨A7, c7, rfl, -⟩ := hm
        clear hR
        go_wp2_with fail
        go_ret
        exact ⟨_, rfl, HM.out, hbwr⟩
      | false =>
        have hR : o1 ++ [x] = R := by have := HI1.out; simpa [addR] using this
        have HRX := Lib.hid hR
        have HBWR := Lib.hid hbwr
        have hszr := HI2.out.2.2.size
        clear hR hbwr
        go_wp2_with (at_builtin; refine wpList_app _ rfl (.tmp 60) (.tmp 62) 22 rfl w0.heap.size 45 j0 _ 3 40 Tryz.underlying22 hj0 hy0 hy1 hy2 rfl (by decide) u5 o1.length xs rfl (ownsRow_below HI2.out.1 (bel_one _ _)) (some ⟨wr.heap.size, 0, none⟩) 1 1 [.int .i64 x.q, .slice Ax x.bs.length cx, .int .i64 x.n] rfl (src_new' _ [.int .i64 x.q, .slice Ax x.bs.length cx, .int .i64 x.n] _ 1 3 _ (by simp) rfl (by simp [Value.oneCell'])) (by unfold maxLen; omega) (by omega) (by simp; omega) ?_; intro v7 w7 hown7 hg7 hloc7)
        have hb7 : Below w0.heap.size w0 w7 := (bel_al HI2.out.2.2 _).trans (grown_below hg7 (by simp; omega) (fun g h => (ownsRow_lt HI2.out.1 h).1))
        have hbw7 : Below w.heap.size w w7 := HB0.out.trans (hb7.mono HB0.out.size)
        have hm := sl_of_means (HI2.out.2.1.app (ent_one_mean HX.out)) hbw7 (by simpa using hown7)
        rw [HRX.out] at hm
        have HM := Lib.hid hm
        obtain ⟨A7, c7, rfl, -⟩ := hm
        clear hown7 hg7 hloc7 hb7
        go_wp2_with fail
        go_ret
        exact ⟨_, rfl, HM.out, hbw7⟩
end Go.Proofs.YtlofjcicpkfcdaaGreatDoor
