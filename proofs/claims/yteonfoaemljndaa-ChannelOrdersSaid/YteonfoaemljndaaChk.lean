/- The error of channels, as the program and as the reference find it. -/
import Derived.Test.YteonfoaemljndaaItms
import Derived.Test.YteonfoaemljndaaCmp
namespace Go.Proofs.Yteonfoaemljndaa
open Go.RowKit

theorem ret_i {a b : Int} (h : a = b) : Ending.returned (.int .i64 a) = .returned (.int .i64 b) := by rw [h]

theorem bel_via {w w' : World} {o : Obj} (hb : Below (w.alloc o).heap.size (w.alloc o) w') : Below w.heap.size w w' := bel_tr (bel_al (Below.refl _ _) _) hb

set_option maxHeartbeats 1000000 in
theorem check_any (l : List Queue) (v : Value) (w : World) (hl : IsQueues w v l) :
    Calls Try.prog 19 #[v] w fun e w' => e = .returned (.int .i64 (checkErr l)) ∧ Below w.heap.size w w' := by
  obtain ⟨A, c, rfl, h1, h2, hat⟩ := hl
  have hn := len_i64 h1 h2
  have HL := Lib.hid hat
  clear hat h1 h2
  go_enter Try.func19, Try.ntmps19
  go_wp2
  go_loopw [8] (fun i wr => ∃ k : Nat, k ≤ l.length ∧ i = .int .i64 k ∧ Hid (checkFrom (prevQ l k) (l.drop k) = checkErr l) ∧ Below w.heap.size w wr) (fun i _ => l.length - (intOf i).toNat)
  case atStart => exact ⟨0, Nat.zero_le _, rfl, rfl, Below.refl _ _⟩
  case round =>
    obtain ⟨k, hk, rfl, hi, hb⟩ := hrel
    by_cases hlt : k < l.length
    · obtain ⟨b, o, rfl, v, hv, c0, c1, c2⟩ := HL.out k l[k] (List.getElem?_eq_getElem hlt)
      replace c0 := cell_stays hb c0
      replace c1 := cell_stays hb c1
      replace c2 := cell_stays hb c2
      have hv' := hv.stays itemAt_stays hb
      obtain ⟨A', c', rfl, -⟩ := hv
      have HV := Lib.hid hv'
      clear hv'
      have hbl := World.block_lt_of_cell? wr _ c0
      have hget := List.getElem?_eq_getElem hlt
      obtain ⟨q, hq⟩ : ∃ q, q = l[k] := ⟨_, rfl⟩
      rw [← hq] at c0 c1 c2 HV hget
      have HG := Lib.hid hget
      clear hget hq
      by_cases hbad : badQ q = true
      · have hbad' : q.frm < 0 ∨ 8 ≤ q.frm ∨ q.to < 0 ∨ 8 ≤ q.to := by simpa [badQ] using hbad
        have HB := Lib.hid hbad
        clear hbad
        go_wp2_with fail
        all_goals
          go_ret
          exact ⟨ret_i (check_stop l k _ HG.out hi (by simp [qErr, HB.out]) (by decide)), (by repeat (first | exact Below.refl _ _ | assumption | refine Below.drew ?_ | refine bel_al ?_ _ | refine bel_set ?_ (by omega) _ | refine bel_tr ?_ (by assumption)))⟩
      · have hb1 : 0 ≤ q.frm := by simp [badQ] at hbad; omega
        have hb2 : q.frm < 8 := by simp [badQ] at hbad; omega
        have hb3 : 0 ≤ q.to := by simp [badQ] at hbad; omega
        have hb4 : q.to < 8 := by simp [badQ] at hbad; omega
        have HB := Lib.hid hbad
        clear hbad
        by_cases hk0 : k = 0
        · have HK := Lib.hid hk0
          have d1 : decide (0 < k) = false := by simp [hk0]
          have d2 : decide ((0 : Int) < (k : Int)) = false := by simp [hk0]
          clear hk0
          go_wp2_with fail
          refine wp_region_F (fun W => W.cell? ⟨wr.heap.size, 0, none⟩ = some (.int .i64 q.frm) ∧ W.cell? ⟨wr.heap.size, 1, none⟩ = some (.int .i64 q.to) ∧ W.cell? ⟨wr.heap.size, 2, none⟩ = some (.slice A' q.items.length c')) (by repeat (first | exact grows_cell _ _ _ | exact grows_true | refine grows_and ?_ ?_)) (by kernel_rfl) (by kernel_rfl) ?hF ?_; (case hF => (first | exact ⟨‹_›, ‹_›⟩ | (go_simp; done) | (simp [*]; done))); intro hne hxx; have hG : Hid (Grows (fun W => W.cell? ⟨wr.heap.size, 0, none⟩ = some (.int .i64 q.frm) ∧ W.cell? ⟨wr.heap.size, 1, none⟩ = some (.int .i64 q.to) ∧ W.cell? ⟨wr.heap.size, 2, none⟩ = some (.slice A' q.items.length c'))) := (by repeat (first | exact grows_cell _ _ _ | exact grows_true | refine grows_and ?_ ?_)); (repeat (go_big_quiet_step (fail))); clear hG hxx hne; refine wpQuiet_nil ?_; rintro _ ⟨⟨w', hb', hF'⟩, rfl⟩
          obtain ⟨e0, e1, e2⟩ := hF'
          have HV' := Lib.hid (HV.out.stays itemAt_stays (bel_via hb'))
          have HA : Hid (afterQ (prevQ l k) q = true) := by rw [prevQ_zero HK.out]; rfl
          go_wp2_with (go_at_call 37; refine (items_any q.items _ _ HV'.out).mono ?_; rintro e w2 ⟨rfl, hb2⟩)
          · rename_i h5
            go_ret
            exact ⟨ret_i (check_stop l k _ HG.out hi (qErr_5 HB.out HA.out (by omega)) (by decide)), bel_tr (bel_al hb _) hb'⟩
          · rename_i h5 h6
            go_ret
            exact ⟨ret_i (check_stop l k _ HG.out hi (qErr_it HB.out HA.out (by omega)) (by simpa using h6)), bel_tr (bel_tr (bel_al hb _) hb') hb2⟩
          · rename_i h5 h6
            go_roundw
            case rel => exact ⟨k + 1, by omega, by go_num, check_go l k _ HG.out hi ((qErr_it HB.out HA.out (by omega)).trans (by simpa using h6)), bel_tr (bel_tr (bel_al hb _) hb') hb2⟩
            case measure => simp [intOf]; omega
        · have hk1 : (0 : Int) ≤ (k : Int) - 1 := by omega
          have hk2 : (k : Int) - 1 < (l.length : Int) := by omega
          have d1 : decide (0 < k) = true := by simp; omega
          have d2 : decide ((0 : Int) < (k : Int)) = true := by simp; omega
          have HK := Lib.hid hk0
          clear hk0
          obtain ⟨_, _, hbo, v2, hv2, p0, p1, p2⟩ := HL.out (k - 1) l[k - 1] (List.getElem?_eq_getElem (by omega))
          simp only [Option.some.injEq, Addr.mk.injEq, and_true] at hbo
          obtain ⟨rfl, rfl⟩ := hbo
          replace p0 := cell_stays hb p0
          replace p1 := cell_stays hb p1
          replace p2 := cell_stays hb p2
          obtain ⟨A2, c2', rfl, -⟩ := hv2
          obtain ⟨p, hp⟩ : ∃ p, p = l[k - 1] := ⟨_, rfl⟩
          rw [← hp] at p0 p1 p2
          have HP := Lib.hid hp
          clear hp
          go_wp2_with fail
          refine wp_region_F (fun W => W.cell? ⟨wr.heap.size, 0, none⟩ = some (.int .i64 q.frm) ∧ W.cell? ⟨wr.heap.size, 1, none⟩ = some (.int .i64 q.to) ∧ W.cell? ⟨wr.heap.size, 2, none⟩ = some (.slice A' q.items.length c') ∧ W.cell? ⟨b, o + (k - 1) * 3, none⟩ = some (.int .i64 p.frm) ∧ W.cell? ⟨b, o + (k - 1) * 3 + 1, none⟩ = some (.int .i64 p.to) ∧ W.cell? ⟨b, o + (k - 1) * 3 + 2, none⟩ = some (.slice A2 p.items.length c2')) (by repeat (first | exact grows_cell _ _ _ | exact grows_true | refine grows_and ?_ ?_)) (by kernel_rfl) (by kernel_rfl) ?hF ?_; (case hF => (first | exact ⟨‹_›, ‹_›⟩ | (go_simp; done) | (simp [*]; done))); intro hne hxx; have hG : Hid (Grows (fun W => W.cell? ⟨wr.heap.size, 0, none⟩ = some (.int .i64 q.frm) ∧ W.cell? ⟨wr.heap.size, 1, none⟩ = some (.int .i64 q.to) ∧ W.cell? ⟨wr.heap.size, 2, none⟩ = some (.slice A' q.items.length c') ∧ W.cell? ⟨b, o + (k - 1) * 3, none⟩ = some (.int .i64 p.frm) ∧ W.cell? ⟨b, o + (k - 1) * 3 + 1, none⟩ = some (.int .i64 p.to) ∧ W.cell? ⟨b, o + (k - 1) * 3 + 2, none⟩ = some (.slice A2 p.items.length c2'))) := (by repeat (first | exact grows_cell _ _ _ | exact grows_true | refine grows_and ?_ ?_)); (repeat (go_big_quiet_step ((go_at_call 44; exact cls_call hG (order_any _ _ _ _ _ _ _))))); clear hG hxx hne; refine wpQuiet_nil ?_; rintro _ ⟨⟨w', hb', hF'⟩, rfl⟩
          obtain ⟨e0, e1, e2, -⟩ := hF'
          have HV' := Lib.hid (HV.out.stays itemAt_stays (bel_via hb'))
          by_cases hord : 0 ≤ orI (cmpI p.frm q.frm) (cmpI p.to q.to)
          · have HA : Hid (afterQ (prevQ l k) q = false) := Lib.hid (by rw [prevQ_pos HK.out hlt HP.out]; simpa [afterQ] using ord_ge p q hord)
            have d3 : decide (0 ≤ orI (cmpI p.frm q.frm) (cmpI p.to q.to)) = true := by simpa using hord
            go_wp2_with fail
            go_ret
            exact ⟨ret_i (check_stop l k _ HG.out hi (qErr_14 HB.out HA.out) (by decide)), bel_tr (bel_al hb _) hb'⟩
          have HA : Hid (afterQ (prevQ l k) q = true) := Lib.hid (by rw [prevQ_pos HK.out hlt HP.out]; simpa [afterQ] using ord_lt p q (by omega))
          have d3 : decide (0 ≤ orI (cmpI p.frm q.frm) (cmpI p.to q.to)) = false := by simpa using hord
          go_wp2_with (go_at_call 37; refine (items_any q.items _ _ HV'.out).mono ?_; rintro e w2 ⟨rfl, hb2⟩)
          · rename_i h5
            go_ret
            exact ⟨ret_i (check_stop l k _ HG.out hi (qErr_5 HB.out HA.out (by omega)) (by decide)), bel_tr (bel_al hb _) hb'⟩
          · rename_i h5 h6
            go_ret
            exact ⟨ret_i (check_stop l k _ HG.out hi (qErr_it HB.out HA.out (by omega)) (by simpa using h6)), bel_tr (bel_tr (bel_al hb _) hb') hb2⟩
          · rename_i h5 h6
            go_roundw
            case rel => exact ⟨k + 1, by omega, by go_num, check_go l k _ HG.out hi ((qErr_it HB.out HA.out (by omega)).trans (by simpa using h6)), bel_tr (bel_tr (bel_al hb _) hb') hb2⟩
            case measure => simp [intOf]; omega
    · go_wp2
      go_ret
      exact ⟨ret_i (check_end l k (by omega) hi), hb⟩
end Go.Proofs.Yteonfoaemljndaa
