/- ledger.Difference's closure, walked. -/
import Derived.Test.YtlofjcicpkfcdaaGreatDoorLstep
namespace Go.Proofs.YtlofjcicpkfcdaaGreatDoor
open Go.RowKit

set_option maxRecDepth 100000 in
set_option maxHeartbeats 2000000 in
theorem add_any (s : Int) (hs : s = 1 ∨ s = -1) (T : List Ety) (A : Option Addr) (c gb ob : Nat) (w0 w : World) (hT : IsEnts w0 (.slice A T.length c) T) (hob : ob = w0.heap.size) (hgb : w0.cell? ⟨gb, 0, none⟩ = some (.slice A T.length c)) (hb0 : Below w0.heap.size w0 w)
    (hfit : ∀ x ∈ T, x.bs.length ≤ 4096 ∧ -4096 ≤ x.n ∧ x.n ≤ 4096) (hlen : T.length ≤ 8192) (av : Value) (ms : List (Chg × Value)) (hms : ms.length ≤ 100000000) (hcw : CW (ob + 1) w av ms) (hoc : w.cell? ⟨ob, 0, none⟩ = some av) (hof : w.frozen? ⟨ob, 0, none⟩ = false) :
    Calls Tryz.prog 39 #[.int .i64 s, .pointer (some ⟨gb, 0, none⟩), .pointer (some ⟨ob, 0, none⟩)] w fun e W => e = .returned (.tuple #[]) ∧ ∃ av' ms', CW (ob + 1) W av' ms' ∧ W.cell? ⟨ob, 0, none⟩ = some av' ∧ W.frozen? ⟨ob, 0, none⟩ = false ∧ ms'.map (·.1) = ms.map (·.1) ++ addsOf s T ∧ Below w0.heap.size w0 W := by
  have HT := Lib.hid hT
  obtain ⟨A0, c0', hA0, h1, h2, hat⟩ := hT
  injection hA0 with e1 e2 e3
  subst e1 e3
  have hn := len_i64 h1 h2
  have HL := Lib.hid hat
  have HFIT := Lib.hid hfit
  have HOB := Lib.hid hob
  have g0 := cell_stays hb0 hgb
  have HGB := Lib.hid hgb
  have HCW := Lib.hid hcw
  have HOC := Lib.hid (And.intro hoc hof)
  obtain ⟨j0, hj0, hy0, hy1, hy2⟩ := info_parts info_chg
  clear hat h1 h2 hfit hcw hoc hof e2 hgb hob
  go_enter Tryz.func39, Tryz.ntmps39
  go_wp2_with fail
  go_loopw [8] (fun i wr => ∃ (k : Nat) (av1 : Value) (ms1 : List (Chg × Value)), k ≤ T.length ∧ i = .int .i64 k ∧ Hid (CW (ob + 1) wr av1 ms1 ∧ wr.cell? ⟨ob, 0, none⟩ = some av1 ∧ wr.frozen? ⟨ob, 0, none⟩ = false ∧ ms1.map (·.1) = ms.map (·.1) ++ addsOf s (T.take k) ∧ ms1.length ≤ ms.length + 4096 * k ∧ Below w0.heap.size w0 wr)) (fun i _ => T.length - (intOf i).toNat)
  case atStart => exact ⟨0, av, ms, Nat.zero_le _, rfl, Lib.hid ⟨HCW.out, HOC.out.1, HOC.out.2, by simp [addsOf], by omega, hb0⟩⟩
  case round =>
    obtain ⟨k, av1, ms1, hk, rfl, hI⟩ := hrel
    have hbr := hI.out.2.2.2.2.2
    by_cases hlt : k < T.length
    · have hk' : (k : Int) < (T.length : Int) := by omega
      obtain ⟨b, o, rfl, v', hv', c0, c1, c2⟩ := HL.out k T[k] (List.getElem?_eq_getElem hlt)
      replace c0 := cell_stays hbr c0
      replace c1 := cell_stays hbr c1
      replace c2 := cell_stays hbr c2
      have hget := Lib.hid (List.getElem?_eq_getElem hlt)
      have hfx := HFIT.out T[k] (List.getElem_mem hlt)
      obtain ⟨x, hx⟩ : ∃ x, x = T[k] := ⟨_, rfl⟩
      rw [← hx] at hget c0 c2 hv' hfx
      have HV := Lib.hid hv'
      obtain ⟨A', c', rfl, -⟩ := hv'
      have hbl : b < wr.heap.size := World.block_lt_of_cell? wr ⟨b, _, none⟩ c0
      have hnb : b ≠ wr.heap.size := by omega
      have hnb' : wr.heap.size ≠ b := by omega
      have hsn : -4096 ≤ s * x.n ∧ s * x.n ≤ 4096 := by rcases hs with rfl | rfl <;> omega
      have hw1 : IntKind.i64.wrap (s * x.n) = s * x.n := IntWalk.i64_in _ (by omega)
      obtain ⟨M, hM⟩ : ∃ M : Nat, max (s * x.n) 0 = (M : Int) := ⟨(s * x.n).toNat, by omega⟩
      have hM2 : (s * x.n).toNat = M := by omega
      have hM4 : M ≤ 4096 := by omega
      clear hx
      go_wp2_with fail
      refine wp_gen fun w5 e5 => ?_
      obtain ⟨X, hX⟩ : ∃ X, wr.heap.size = X := ⟨_, rfl⟩
      have hb5 : Below wr.heap.size wr w5 := by rw [e5]; exact (by repeat (first | exact Below.refl _ _ | assumption | refine Below.drew ?_ | refine bel_al ?_ _ | refine bel_set ?_ (by omega) _ | refine bel_tr ?_ (by assumption)))
      have hXh : w5.heap[X]? = some (.cells [Value.int .i64 x.q, .slice A' x.bs.length c', .int .i64 x.n].toArray 45 (0, 0)) := by rw [e5, ← hX]; exact heap_new' _ _ _ rfl
      have hobX : ob < X := by have := hbr.size; have := World.block_lt_of_cell? wr ⟨ob, 0, none⟩ hI.out.2.1; simp only at this; omega
      rw [hX]
      have HXH := Lib.hid hXh
      have H5 : Hid (CW (ob + 1) w5 av1 ms1 ∧ w5.cell? ⟨ob, 0, none⟩ = some av1 ∧ w5.frozen? ⟨ob, 0, none⟩ = false ∧ Below w0.heap.size w0 w5) := Lib.hid ⟨hI.out.1.grow hb5, cell_stays hb5 hI.out.2.1, (World.frozen?_of_block (a := ⟨ob, 0, none⟩) (hb5.block ob (by omega))).trans hI.out.2.2.1, bel_tr hbr hb5⟩
      clear e5 hXh hb5 c0 c1 c2
      go_loopw [17] (fun i2 wq => ∃ (j : Nat) (av2 : Value) (ms2 : List (Chg × Value)), j ≤ M ∧ i2 = .int .i64 j ∧ Hid (CW (ob + 1) wq av2 ms2 ∧ wq.cell? ⟨ob, 0, none⟩ = some av2 ∧ wq.frozen? ⟨ob, 0, none⟩ = false ∧ ms2.map (·.1) = ms1.map (·.1) ++ List.replicate j ⟨s, x.q, x.bs⟩ ∧ Below w0.heap.size w0 wq ∧ wq.heap[X]? = some (.cells [Value.int .i64 x.q, .slice A' x.bs.length c', .int .i64 x.n].toArray 45 (0, 0)))) (fun i2 _ => M - (intOf i2).toNat)
      case atStart => exact ⟨0, av1, ms1, Nat.zero_le _, rfl, Lib.hid ⟨H5.out.1, H5.out.2.1, H5.out.2.2.1, by simp, H5.out.2.2.2, HXH.out⟩⟩
      case round =>
        obtain ⟨j, av2, ms2, hj, rfl, hJ⟩ := hrel
        by_cases hjM : j < M
        · have hj' : (j : Int) < (M : Int) := by omega
          have hm2 : ms2.length ≤ ms.length + 4096 * k + 4096 := by
            have h1 := congrArg List.length hJ.out.2.2.2.1
            have h2 := hI.out.2.2.2.2.1
            simp only [List.length_append, List.length_map, List.length_replicate] at h1
            omega
          have y0 : wr.cell? ⟨X, 0, none⟩ = some (.int .i64 x.q) := by rw [blk_cell hJ.out.2.2.2.2.2]; rfl
          have y1 : wr.cell? ⟨X, 1, none⟩ = some (.slice A' x.bs.length c') := by rw [blk_cell hJ.out.2.2.2.2.2]; rfl
          have o0 := hJ.out.2.1
          have of0 := hJ.out.2.2.1
          have hbq := hJ.out.2.2.2.2.1
          have hobl : ob < wr.heap.size := by have := World.block_lt_of_cell? wr ⟨ob, 0, none⟩ o0; simpa using this
          obtain ⟨A4, c4, hv4⟩ := slice_own hJ.out.1.row
          subst hv4
          have hGN : Hid (∀ g, (Value.slice A4 ms2.length c4).ownBlock = some g → g ≠ X ∧ ob + 1 ≤ g ∧ g < wr.heap.size) := Lib.hid fun g h => by
            have h1 := ownsRow_lt hJ.out.1.row h
            refine ⟨fun e => ?_, h1⟩
            rcases hJ.out.1.row.2 with ⟨hv, _⟩ | ⟨g', cap', cur', hv, _, hh, _⟩
            · rw [hv] at h; simp [Value.ownBlock] at h
            · rw [hv] at h
              have : g' = g := by simpa [Value.ownBlock] using h
              rw [this, e, hJ.out.2.2.2.2.2] at hh
              injection hh with hh
              injection hh with _ h2 _
              exact absurd h2 (by decide)
          have hFF : Hid ((fun W => W.cell? ⟨X, 0, none⟩ = some (.int .i64 x.q) ∧ W.cell? ⟨X, 1, none⟩ = some (.slice A' x.bs.length c') ∧ W.cell? ⟨ob, 0, none⟩ = some (.slice A4 ms2.length c4)) wr) := Lib.hid ⟨y0, y1, o0⟩
          have hGG : Hid (Grows (fun W => W.cell? ⟨X, 0, none⟩ = some (.int .i64 x.q) ∧ W.cell? ⟨X, 1, none⟩ = some (.slice A' x.bs.length c') ∧ W.cell? ⟨ob, 0, none⟩ = some (.slice A4 ms2.length c4))) := (by repeat (first | exact grows_cell _ _ _ | exact grows_true | refine grows_and ?_ ?_))
          go_wp2_with fail
          go_region_law (first | (refine step_call1 _ (by rfl) 29 (.tmp 24) 30 (by rfl) (.agg #[.slice A' x.bs.length c']) (by rfl) enter_own ?_; refine calls_gen fun W8 e8 => ?_; have hb8 : Below wr.heap.size wr W8 := (by rw [e8]; exact (by repeat (first | exact Below.refl _ _ | assumption | refine Below.drew ?_ | refine bel_al ?_ _ | refine bel_set ?_ (by omega) _ | refine bel_tr ?_ (by assumption)))); clear e8; refine (own_agg x.bs _ W8 (HV.out.stays bndAt_stays (bel_tr hbq hb8)) (by omega)).mono ?_; rintro e w6 ⟨v6, rfl, hnb6, hb6⟩; have hb56 := bel_tr hb8 hb6; have o6 := cell_stays hb56 o0; have y06 := cell_stays hb56 y0; have hlo6 : ob < w6.heap.size := Nat.lt_of_lt_of_le hobl hb56.size; have hno6 : ob ≠ w6.heap.size := (by omega); have hno7 : w6.heap.size ≠ ob := (by omega); have o6a := cell_stays (bel_one w6 (.cells #[.int .i64 s, .int .i64 x.q, v6] 32)) o6;  obtain ⟨A6, c6, hv6⟩ : ∃ A c, v6 = .slice A x.bs.length c := (by obtain ⟨A, c, h, -⟩ := hnb6.1; exact ⟨A, c, h⟩); subst hv6; refine ⟨_, rfl, ?_⟩) | (refine step_app _ (by rfl) (.tmp 19) (.tmp 27) 23 (by rfl) (ob + 1) 32 j0 _ 3 40 Tryz.underlying23 hj0 hy0 hy1 hy2 rfl (by decide) (.slice A4 ms2.length c4) ms2.length (cellsC ms2) (by rfl) (ownsRow_below (hJ.out.1.grow hb56).row (by repeat (first | exact Below.refl _ _ | assumption | refine Below.drew ?_ | refine bel_al ?_ _ | refine bel_set ?_ (by omega) _ | refine bel_tr ?_ (by assumption)))) (some ⟨w6.heap.size, 0, none⟩) 1 1 [.int .i64 s, .int .i64 x.q, .slice A6 x.bs.length c6] (by rfl) (Src.stays (src_new w6 [.int .i64 s, .int .i64 x.q, .slice A6 x.bs.length c6] 32 1 3 rfl (by simp [Value.oneCell'])) (by repeat (first | exact Below.refl _ _ | assumption | refine Below.drew ?_ | refine bel_al ?_ _ | refine bel_set ?_ (by omega) _ | refine bel_tr ?_ (by assumption)))) (by unfold maxLen; omega) (by omega) (by have h2 := hb56.size; simp; omega) ?_; intro v7 w7 hown7 hg7 hloc7; obtain ⟨A7, c7, hv7⟩ := slice_own hown7; subst hv7; have hl6 : ob < w6.heap.size := Nat.lt_of_lt_of_le hobl hb56.size; have hk7 : w7.heap[ob]? = wr.heap[ob]? := ((hg7.block ob (by simp; omega) (fun e => absurd (hGN.out ob e.symm).2.1 (by omega))).trans (Below.heap_alloc w6 _ ob hl6)).trans (hb56.block ob hobl); have f7 : w7.frozen? ⟨ob, 0, none⟩ = false := (World.frozen?_of_block (a := ⟨ob, 0, none⟩) hk7).trans of0; have o7 : w7.cell? ⟨ob, 0, none⟩ = some (.slice A4 ms2.length c4) := (World.cell?_of_block (a := ⟨ob, 0, none⟩) hk7).trans o0))
          all_goals
            have hCA := CW.app (x := ⟨s, x.q, x.bs⟩) (hJ.out.1.grow hb56) hnb6.1 (fun g hg1 => by
              have h1 := hnb6.2 g hg1
              have h3 := hb8.size
              exact ⟨by omega, h1.2, fun e => by have := (hGN.out g e.symm).2.2; omega⟩) hown7 hg7 hloc7
            have hCS := hCA.set (b := ob) (i := 0) (by omega) (.slice A7 (ms2.length + 1) c7)
            have hX7 : w7.heap[X]? = some (.cells [Value.int .i64 x.q, .slice A' x.bs.length c', .int .i64 x.n].toArray 45 (0, 0)) := by
              have hXl := blk_lt hJ.out.2.2.2.2.2
              exact ((hg7.block X (by have := hb56.size; simp; omega) (fun e => (hGN.out X e.symm).1 rfl)).trans (Below.heap_alloc w6 _ X (by have := hb56.size; omega))).trans ((hb56.block X hXl).trans hJ.out.2.2.2.2.2)
            have hb07 : Below w0.heap.size w0 w7 := (bel_al (bel_tr hbq hb56) _).trans (grown_below hg7 (by have h1 := hbq.size; have h2 := hb56.size; simp; omega) (fun g h => by have h1 := (hGN.out g h).2.1; have h2 := HOB.out; omega))
            have HCS := Lib.hid hCS
            have HX7 := Lib.hid hX7
            clear hCA hCS hX7 hown7 hg7 hloc7 hnb6
            go_wp2_with fail
            go_roundw
            case rel =>
              refine ⟨j + 1, _, ms2 ++ [(⟨s, x.q, x.bs⟩, .slice A6 x.bs.length c6)], by omega, by go_num, Lib.hid ⟨HCS.out.grow (by repeat (first | exact Below.refl _ _ | assumption | refine Below.drew ?_ | refine bel_al ?_ _ | refine bel_set ?_ (by omega) _ | refine bel_tr ?_ (by assumption))), ?_, ?_, ?_, ?_, ?_⟩⟩
              · simp [go_sem, o7]
              · simp [go_sem, f7]
              · rw [List.map_append, hJ.out.2.2.2.1, List.append_assoc, List.replicate_succ']; rfl
              · exact hb07.setCell (p := ⟨ob, 0, none⟩) (by have h2 := HOB.out; simp only; omega) _
              · exact (Below.heap_setCell _ _ _ _ (by simp only; omega)).trans HX7.out
            case measure => simp [intOf]; omega
        · have hj' : ¬ (j : Int) < (M : Int) := by omega
          have hjM' : j = M := by omega
          subst hjM'
          have HJ := Lib.hid hJ.out
          clear hJ
          go_wp2_with fail
          go_roundw
          case rel =>
            refine ⟨k + 1, av2, ms2, by omega, by go_num, Lib.hid ⟨HJ.out.1, HJ.out.2.1, HJ.out.2.2.1, ?_, ?_, HJ.out.2.2.2.2.1⟩⟩
            · rw [HJ.out.2.2.2.1, hI.out.2.2.2.1, adds_take hget.out, hM2, List.append_assoc]
            · have h1 := congrArg List.length HJ.out.2.2.2.1
              have h2 := hI.out.2.2.2.2.1
              simp only [List.length_append, List.length_map, List.length_replicate] at h1
              omega
          case measure => simp [intOf]; omega
    · have hk' : ¬ (k : Int) < (T.length : Int) := by omega
      have hke : k = T.length := by omega
      have hI' := hI.out
      rw [hke, List.take_length] at hI'
      have HI := Lib.hid hI'
      clear hI hI' hke
      go_wp2_with fail
      go_end0
      exact ⟨rfl, av1, ms1, HI.out.1, HI.out.2.1, HI.out.2.2.1, HI.out.2.2.2.1, HI.out.2.2.2.2.2⟩
end Go.Proofs.YtlofjcicpkfcdaaGreatDoor
