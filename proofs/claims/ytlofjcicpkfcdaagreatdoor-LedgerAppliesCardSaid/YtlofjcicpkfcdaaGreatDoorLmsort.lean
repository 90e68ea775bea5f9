/- match.Sort; ledger.Of. -/
import Derived.Test.YtlofjcicpkfcdaaGreatDoorLsortm
import Derived.Test.YtlofjcicpkfcdaaGreatDoorLstand
import Derived.Test.YtlofjcicpkfcdaaGreatDoorLawake
namespace Go.Proofs.YtlofjcicpkfcdaaGreatDoor
open Go.RowKit Go.Shelf

theorem cloneB_any (l : List Bnd) (v : Value) (w : World) (hl : IsBnds w v l) (hn : l.length ≤ 1048576) :
    Calls Tryz.prog 49 #[v] w fun e w' => ∃ v', e = .returned v' ∧ NewBnds w.heap.size w' v' l ∧ Below w.heap.size w w' := by
  obtain ⟨A, c, rfl, h1, h2, hat⟩ := hl
  obtain ⟨cs, hm, hs, -⟩ := means_of_sl bndAt_movable ⟨A, c, rfl, h1, h2, hat⟩
  refine (cloneBnds A l.length c cs w hs hn).mono ?_
  rintro e w3 ⟨v3, rfl, ho3, hb3⟩
  exact ⟨v3, rfl, ⟨sl_of_means hm hb3 ho3, fun g hg => ownsRow_lt ho3 hg⟩, hb3⟩
theorem mats_row {w : World} {g cap : Nat} {C : List MV} {spare : List Value} (hg : w.heap[g]? = some (.cells (C.map (·.2) ++ spare).toArray 30 (0, 0))) (hc : C.length ≤ cap) (hm : cap ≤ maxLen) (he : ∀ e ∈ C, IsBnds w e.2 e.1) : IsMats w (.slice (some ⟨g, 0, none⟩) C.length cap) (C.map (·.1)) := by
  refine ⟨_, cap, by rw [List.length_map], by rw [List.length_map]; exact hc, hm, fun k x hk => ⟨g, 0, rfl, ?_⟩⟩
  rw [List.getElem?_map] at hk
  obtain ⟨e, h1, rfl⟩ := Option.map_eq_some_iff.1 hk
  refine ⟨e.2, he e (List.mem_of_getElem? h1), ?_⟩
  rw [blk_cell hg, Nat.zero_add, Nat.mul_one]
  exact vals_at h1 spare
theorem mat_len {l : List Bnd} (h : matErr l = 0) : l.length ≤ 4096 := by
  unfold matErr at h
  split at h
  · omega
  · split at h
    · exact absurd h (by decide)
    · omega

set_option maxRecDepth 100000 in
set_option maxHeartbeats 4000000 in
theorem msort_any (l : List (List Bnd)) (v : Value) (w : World) (hl : IsMats w v l) (hlen : l.length ≤ 1000) : Calls Tryz.prog 28 #[v] w (MatRet w (sortR l)) := by
  obtain ⟨A, c, rfl, h1, h2, hat⟩ := hl
  have hn := len_i64 h1 h2
  have HL := Lib.hid hat
  obtain ⟨j0, hj0, hy0, hy1, hy2⟩ := info_parts info_mat
  obtain ⟨R, hR⟩ : ∃ R, sortR l = R := ⟨_, rfl⟩
  have HR := Lib.hid hR
  rw [hR]
  clear hat h1 h2 hR
  go_enter Tryz.func28, Tryz.ntmps28
  go_wp2_with fail
  go_loopw [4, 10] (fun av i wr => ∃ (k : Nat) (ms : List MV), k ≤ l.length ∧ i = .int .i64 k ∧ ms.length = k ∧ Hid (scanE (fun _ m => matErr m) (prevL l k) (l.drop k) = matsErr l ∧ ms.map (·.1) = l.take k ∧ MW w.heap.size wr av ms ∧ Below w.heap.size w wr)) (fun _ i _ => l.length - (intOf i).toNat)
  case atStart => exact ⟨0, [], Nat.zero_le _, rfl, rfl, Lib.hid ⟨rfl, rfl, MW.nil _ _, Below.refl _ _⟩⟩
  case round =>
    obtain ⟨k, ms, hk, rfl, hml, hI⟩ := hrel
    have hbr := hI.out.2.2.2
    have HML := Lib.hid hml
    clear hml
    by_cases hlt : k < l.length
    · have hk' : (k : Int) < (l.length : Int) := by omega
      obtain ⟨b, o, rfl, v', hv', c0⟩ := HL.out k l[k] (List.getElem?_eq_getElem hlt)
      replace c0 := cell_stays hbr c0
      rw [Nat.mul_one] at c0
      have hget := Lib.hid (List.getElem?_eq_getElem hlt)
      obtain ⟨x, hx⟩ : ∃ x, x = l[k] := ⟨_, rfl⟩
      rw [← hx] at hget hv'
      have HV := Lib.hid (hv'.stays bndAt_stays hbr)
      obtain ⟨A', c', rfl, -⟩ := hv'
      have hbl : b < wr.heap.size := World.block_lt_of_cell? wr ⟨b, _, none⟩ c0
      have hnb : b ≠ wr.heap.size := by omega
      have hnb' : wr.heap.size ≠ b := by omega
      obtain ⟨es, hes⟩ : ∃ e, matErr x = e := ⟨_, rfl⟩
      have HES := Lib.hid hes
      clear hx hes
      go_wp2_with fail
      refine calls_gen fun W9 e9 => ?_
      have y0 : W9.cell? ⟨wr.heap.size, 0, none⟩ = some (.slice A' x.length c') := by rw [e9]; go_simp
      have hb9 : Below wr.heap.size wr W9 := by rw [e9]; exact (by repeat (first | exact Below.refl _ _ | assumption | refine Below.drew ?_ | refine bel_al ?_ _ | refine bel_set ?_ (by omega) _ | refine bel_tr ?_ (by assumption)))
      clear e9
      refine (mcheck_any x _ W9 (HV.out.stays bndAt_stays hb9)).mono ?_
      rw [HES.out]
      rintro e w4 ⟨rfl, hb4⟩
      replace y0 := cell_stays hb4 y0
      have hb94 := bel_tr hb9 hb4
      by_cases h0 : es = 0
      case neg =>
        have h0' : (es != 0) = true := by simpa using h0
        have HX : Hid (R = ([], es)) := Lib.hid (by
          have h5 : matsErr l = es := (scan_stop hget.out hI.out.1 HES.out h0).symm
          rw [← HR.out, sortR, h5, if_pos h0])
        clear h0
        go_wp2_with fail
        go_ret2
        rw [HX.out]
        exact ⟨_, rfl, Sl.nil _ _ _ _ _ (Nat.zero_le _), bel_tr hbr hb94⟩
      subst h0
      have HV4 := Lib.hid (HV.out.stays bndAt_stays hb94)
      have HB94 := Lib.hid hb94
      have hxl := mat_len HES.out
      clear c0 hnb hnb' hbl hb9 hb4 hb94
      go_wp2_with fail
      refine (cloneB_any x _ w4 HV4.out (by omega)).mono ?_
      rintro e w5 ⟨v5, rfl, hnb5, hb5⟩
      have HN5 := Lib.hid hnb5
      obtain ⟨A5, c5, hv5⟩ := sl_form hnb5.1
      subst hv5
      have HB5 := Lib.hid (bel_tr HB94.out hb5)
      have HMW := Lib.hid ((hI.out.2.2.1.grow HB94.out).grow hb5)
      have HSZ := Lib.hid HB94.out.size
      have hsz5 := HB5.out.size
      have hszr := hbr.size
      clear hnb5 hb5
      go_wp2_with (at_builtin; refine wpList_app _ rfl (.tmp 19) (.tmp 24) 27 rfl w.heap.size 30 j0 _ 1 24 Tryz.underlying27 hj0 hy0 hy1 hy2 rfl (by decide) u4 ms.length (ms.map (·.2)) rfl (ownsRow_below HMW.out.row (bel_one _ _)) (some ⟨w5.heap.size, 0, none⟩) 1 1 [.slice A5 x.length c5] rfl (src_new' _ [.slice A5 x.length c5] _ 1 1 _ rfl rfl (by simp [Value.oneCell'])) (by have := HML.out; unfold maxLen; omega) (by have := HML.out; omega) (by simp; omega) ?_; intro v7 w7 hown7 hg7 hloc7)
      have hMA := MW.app HMW.out HN5.out.1 (fun g hg1 => by
        have h1 := HN5.out.2 g hg1
        have h3 := HSZ.out
        exact ⟨by omega, h1.2, fun e => by have := (ownsRow_lt hI.out.2.2.1.row e.symm).2; omega⟩) hown7 hg7 hloc7
      have hb7 : Below w.heap.size w w7 := (bel_al (bel_tr hbr HB5.out) _).trans (grown_below hg7 (by simp; omega) (fun g h => (ownsRow_lt hI.out.2.2.1.row h).1))
      have HMA := Lib.hid hMA
      clear hMA hown7 hg7 hloc7
      go_wp2_with fail
      go_roundw
      case rel =>
        refine ⟨k + 1, _, by omega, by go_num, ?_, Lib.hid ⟨scan_go hget.out hI.out.1 HES.out, ?_, HMA.out, hb7⟩⟩
        · rw [List.length_append, HML.out]; rfl
        · rw [List.map_append, hI.out.2.1, take_snoc' hget.out]; rfl
      case measure => simp [intOf]; omega
    · have hk' : ¬ (k : Int) < (l.length : Int) := by omega
      have hke : k = l.length := by omega
      subst hke
      have hI1 := hI.out
      rw [List.take_length] at hI1
      have HE0 : Hid (matsErr l = 0) := Lib.hid (scan_end (Nat.le_refl _) hI1.1).symm
      have HMM := Lib.hid hI1.2.1
      have HMW := Lib.hid hI1.2.2.1
      have HB0 := Lib.hid hbr
      have hrow := hI1.2.2.1.row
      clear hI hI1 hbr
      rcases own_cur hrow with ⟨hv, h0⟩ | ⟨g, cap, spare, hv, hbg, hh, hnc, hcm, hl2, hx2⟩
      · have hms : ms = [] := List.eq_nil_of_length_eq_zero h0
        have HX : Hid (R = ([], 0)) := Lib.hid (by
          have h3 := HMM.out
          rw [hms] at h3
          rw [← HR.out, sortR, HE0.out, if_neg (by simp), ← h3]
          rfl)
        subst hv
        clear h0 hms hrow
        go_wp2_with fail
        refine (sortNilM_any _).mono ?_
        rintro e w2 ⟨rfl, hb2⟩
        go_wp2_with fail
        refine (compNil_any _).mono ?_
        rintro e w3 ⟨rfl, rfl⟩
        go_wp2_with fail
        go_ret2
        rw [HX.out]
        exact ⟨_, rfl, Sl.nil _ _ _ _ _ (Nat.zero_le _), bel_tr HB0.out hb2⟩
      · subst hv
        have hmok : ∀ e ∈ ms, MOk wr g e := fun e he => ⟨(HMW.out.bnds e he).1, fun e1 => ((HMW.out.bnds e he).2 g e1).2.2 rfl⟩
        have HSO := Lib.hid (sortMats_any ms g cap spare wr hh (by have := HML.out; omega) hmok)
        have hgr := blk_lt hh
        have HBG := Lib.hid hbg
        have HL2 := Lib.hid hl2
        clear hrow hh hbg hl2 hx2
        go_wp2_with fail
        refine HSO.out.mono ?_
        rintro e w2 ⟨rfl, es', spare', hp, hso, hh2, hls, hgr2⟩
        have hel : es'.length = ms.length := hp.length_eq
        have hmok2 : ∀ e ∈ es', MOk w2 g e := fun e he => by
          have h1 := hmok e (hp.mem_iff.1 he)
          exact ⟨sl_kept' h1.1 fun b hb hv => hgr2.block b hb (fun e1 => h1.2 (by rw [hv, e1])), h1.2⟩
        have HCO := Lib.hid (compact_any es' g cap spare' w2 hh2 (by rw [hel]; exact hnc) hcm (by rw [hls, HL2.out, Nat.mul_one]) hmok2)
        rw [hel] at HCO
        have HCI := Lib.hid (comp_is hp (hso.imp fun h => by omega))
        rw [HMM.out] at HCI
        rw [hel] at HCI
        obtain ⟨C, hC⟩ : ∃ C, compT es' ms.length = C := ⟨_, rfl⟩
        have hCm : ∀ e ∈ C, e ∈ es' := by rw [← hC]; exact compT_mem es' _
        have hCl : C.length ≤ ms.length := by rw [← hC]; exact compT_len es' _
        rw [hC] at HCO HCI
        have HMK := Lib.hid (fun e he => hmok2 e (hCm e he))
        have HGR2 := Lib.hid hgr2
        clear hp hso hh2 hls hmok hmok2 hel hC hCm hgr2
        go_wp2_with fail
        refine HCO.out.mono ?_
        rintro e w3 ⟨spare3, rfl, hh3, hl3, hgr3⟩
        have hkb : ∀ e ∈ C, IsBnds w3 e.2 e.1 := fun e he => by
          have h1 := HMK.out e he
          exact sl_kept' h1.1 fun b hb hv => hgr3.block b hb (fun e1 => h1.2 (by rw [hv, e1]))
        have hM3 := mats_row hh3 (by omega) hcm hkb
        rw [HCI.out] at hM3
        have hCS : C.length = (sortM l).length := by rw [← HCI.out, List.length_map]
        have hbw3 : Below w.heap.size w w3 := (HB0.out.trans (grown_below HGR2.out HB0.out.size (fun g1 e => by injection e with e; have := HBG.out; omega))).trans (grown_below hgr3 (Nat.le_trans HB0.out.size HGR2.out.size) (fun g1 e => by injection e with e; have := HBG.out; omega))
        have HM3 := Lib.hid hM3
        have HBW3 := Lib.hid hbw3
        have HML2 := HML.out
        have h4096 : ¬ (4096 : Int) < (C.length : Int) := by omega
        have HX : Hid (R = (sortM l, 0)) := Lib.hid (by
          rw [← HR.out, sortR, HE0.out, if_neg (by simp), if_neg (by omega)])
        have hClm : (C.length : Int) ≤ 9223372036854775807 := by omega
        clear hh3 hl3 hgr3 hkb hM3 hCS hbw3
        go_wp2_with fail
        go_ret2
        rw [HX.out]
        exact ⟨_, rfl, HM3.out, HBW3.out⟩
end Go.Proofs.YtlofjcicpkfcdaaGreatDoor
