/- The reference's copy with other items, and its Send. -/
import Derived.Test.YteonfoaemljndaaSend
namespace Go.Proofs.Yteonfoaemljndaa
open Go.RowKit

def QsRet1 (w : World) (r : List Queue) (x : Ending) (W : World) : Prop := ∃ v, x = .returned v ∧ IsQueues W v r ∧ Below w.heap.size w W

theorem src_of_queues {w : World} {A : Option Addr} {n c : Nat} {l : List Queue} (h : IsQueues w (.slice A n c) l) :
    ∃ us : List Value, us.length = l.length ∧ (∀ (j : Nat) (u : Value) (q : Queue), us[j]? = some u → l[j]? = some q → IsItems w u q.items) ∧ Src w A l.length 3 (qcells l us) ∧ n = l.length := by
  obtain ⟨A', c', hv, _, _, hat⟩ := h
  injection hv with e1 e2 e3
  subst e1 e2 e3
  cases l with
  | nil => exact ⟨[], rfl, fun j u q h => by simp at h, Src.nil _ _ _, rfl⟩
  | cons q0 l =>
    obtain ⟨b, o, hA, _⟩ := hat 0 q0 rfl
    subst hA
    have hS : SlAt QueueAt 3 w b o (q0 :: l) := fun k x hk => by
      obtain ⟨b', o', hA, hR⟩ := hat k x hk
      injection hA with hA
      injection hA with e1 e2
      subst e1 e2
      exact hR
    obtain ⟨us, hus, hui, huc⟩ := queues_cells _ o hS
    refine ⟨us, hus, hui, ⟨qcells_length _ us hus, qcells_one _ us (fun u hu => ?_), fun _ => ⟨b, o, rfl, huc⟩⟩, rfl⟩
    obtain ⟨j, hj⟩ := List.mem_iff_getElem?.1 hu
    have hjl := (List.getElem?_eq_some_iff.1 hj).1
    exact sl_oneCell (hui j u _ hj (List.getElem?_eq_getElem (by omega)))

theorem own_form {w : World} {base e sz n : Nat} {v : Value} {xs : List Value} (h : w.ownsRow base e sz v n xs) (hn : 0 < n) :
    ∃ g cap spare, v = .slice (some ⟨g, 0, none⟩) n cap ∧ base ≤ g ∧ w.heap[g]? = some (.cells (xs ++ spare).toArray e (0, 0)) ∧ n ≤ cap ∧ cap ≤ maxLen := by
  rcases h.2 with ⟨_, h0⟩ | ⟨g, cap, cur, hv, hg, hh, hnc, hcm, hcs, htake⟩
  · omega
  · exact ⟨g, cap, cur.toList.drop (n * sz), hv, hg, by rw [hh, ← htake, List.take_append_drop], hnc, hcm⟩

set_option maxRecDepth 100000 in
set_option maxHeartbeats 1000000 in
theorem with_any (l : List Queue) (v : Value) (i : Nat) (xs : List Item) (vi : Value) (w : World) (hl : IsQueues w v l) (hx : IsItems w vi xs) (hil : i < l.length) (hsm : l.length ≤ 1048576) (hxm : xs.length ≤ 1048576) :
    Calls Try.prog 41 #[v, .int .i64 i, vi] w (QsRet1 w (setItems l i xs)) := by
  have HL := Lib.hid hl
  have HX := Lib.hid hx
  obtain ⟨A, c, rfl, -⟩ := hl
  obtain ⟨Ax, cx, rfl, -⟩ := hx
  obtain ⟨us, hus, hui, hsrc, -⟩ := src_of_queues HL.out
  obtain ⟨csx, hmx, hsx, -⟩ := means_of_sl itemAt_movable HX.out
  have HUS := Lib.hid hus
  have HUI := Lib.hid hui
  have HS := Lib.hid hsrc
  have HMX := Lib.hid hmx
  have HSX := Lib.hid hsx
  clear hus hui hsrc hmx hsx
  obtain ⟨i0, hi0, hz0, hz1, hz2⟩ := info_parts info_item
  obtain ⟨j0, hj0, hy0, hy1, hy2⟩ := info_parts info_queue
  have hil' : (i : Int) < (l.length : Int) := by omega
  obtain ⟨ui, HU⟩ : ∃ ui, Hid (us[i]? = some ui) := ⟨_, Lib.hid (List.getElem?_eq_getElem (by rw [HUS.out]; exact hil))⟩
  go_enter Try.func41, Try.ntmps41
  go_wp2_with (first
    | (at_builtin; refine wpList_app _ rfl (.tmp 8) (.tmp 9) 22 rfl w.heap.size 69 j0 _ 3 40 Try.underlying22 hj0 hy0 hy1 hy2 rfl (by decide) (.slice (some ⟨w.heap.size, 0, none⟩) 0 0) 0 [] rfl (ownsRow_empty w _ _ _ (Nat.le_refl _)) A l.length c (qcells l us) rfl (HS.out.stays (bel_al (Below.refl _ _) _)) (by unfold maxLen; omega) (by omega) (by simp) ?_; intro v1 w1 hown1 hg1 hloc1; clear hj0 hy0 hy1 hy2; obtain ⟨g, cap, spare, hv1, hgb, hblk, hcap, hcm⟩ := own_form hown1 (by omega); simp only [Nat.zero_add, List.nil_append] at hv1 hcap hblk; subst hv1; have HB1 := Lib.hid ((bel_al (Below.refl _ w) (.cells #[] 69)).trans (grown_below hg1 (by simp) (fun g h => Nat.le_of_eq (by simpa [Value.ownBlock] using h)))); have hgl := blk_lt hblk; have HBK := Lib.hid hblk; clear hown1 hg1 hloc1 hblk)
    | (at_builtin; refine wpList_app _ rfl (.tmp 13) (.tmp 14) 24 rfl w1.heap.size 39 i0 _ 7 72 Try.underlying24 hi0 hz0 hz1 hz2 rfl (by decide) (.slice (some ⟨w1.heap.size, 0, none⟩) 0 0) 0 [] rfl (ownsRow_empty w1 _ _ _ (Nat.le_refl _)) Ax xs.length cx csx rfl (HSX.out.stays (bel_al HB1.out _)) (by unfold maxLen; omega) (by omega) (by simp) ?_; intro v2 w2 hown2 hg2 hloc2; clear hi0 hz0 hz1 hz2; simp only [Nat.zero_add, List.nil_append] at hown2; have HO2 := Lib.hid hown2; obtain ⟨A2, c2, rfl, -⟩ := ownsRow_src hown2 HMX.out.2.1; have HB2 : Hid (Below w1.heap.size w1 w2) := Lib.hid ((bel_al (Below.refl _ w1) (.cells #[] 39)).trans (grown_below hg2 (by simp) (fun g h => Nat.le_of_eq (by simpa [Value.ownBlock] using h)))); have HBK2 := Lib.hid ((HB2.out.block g hgl).trans HBK.out); have kc : w2.cell? ⟨g, i * 3 + 2, none⟩ = some ui := (by rw [blk_cell HBK2.out, List.getElem?_append_left (by rw [qcells_length l us HUS.out]; omega)]; exact (qcells_get 0 l us i _ _ (List.getElem?_eq_getElem hil) HU.out).2.2); have kf : w2.frozen? ⟨g, i * 3 + 2, none⟩ = false := blk_frozen HBK2.out _; clear hown2 hg2 hloc2))
  go_ret
  have hbw2 : Below w.heap.size w w2 := bel_tr HB1.out HB2.out
  have hbW := bel_set (i := i * 3 + 2) hbw2 hgb (.slice A2 xs.length c2)
  refine ⟨_, rfl, queues_upd HBK2.out HUS.out hil (fun j u q _ hu hq => (HUI.out j u q hu hq).stays itemAt_stays hbW) (sl_of_means HMX.out hbW (ownsRow_kept HO2.out (fun b hb => ?_))) hcap hcm, hbW⟩
  have := (ownsRow_lt HO2.out hb).1
  exact Below.heap_setCell w2 ⟨g, i * 3 + 2, none⟩ _ b (fun e => by simp only at e; omega)

set_option maxRecDepth 100000 in
set_option maxHeartbeats 1000000 in
theorem rsend_any (l : List Queue) (v : Value) (f t : Int) (more : List Item) (vm : Value) (w : World) (hl : IsQueues w v l) (hm : IsItems w vm more) (hsm : l.length ≤ 1048576) (hit : ∀ q ∈ l, q.items.length ≤ 1048576) (hmm : more.length ≤ 1048576) :
    Calls Try.prog 15 #[v, .int .i64 f, .int .i64 t, vm] w (QsRet w (sendR l f t more)) := by
  have HL := Lib.hid hl
  have HM := Lib.hid hm
  have HIT := Lib.hid hit
  clear hit
  obtain ⟨A, c, rfl, -⟩ := hl
  obtain ⟨Am, cm, rfl, -⟩ := hm
  by_cases hf : (foundR l f t).2 = 0
  · obtain ⟨i, q, hfi, hc0, hfq, hq⟩ := found_ok hf
    have HF := Lib.hid hfi
    have HQ := Lib.hid hq
    have hil := (List.getElem?_eq_some_iff.1 hq).1
    have hqi := HIT.out q (List.mem_of_getElem? hq)
    have hil' : (i : Int) < (l.length : Int) := by omega
    clear hf hfi hc0 hfq hq
    obtain ⟨x, hx⟩ : ∃ x, x = itemsErr more := ⟨_, rfl⟩
    have HX := Lib.hid hx
    by_cases hx0 : x = 0
    · have g1 : (x != 0) = false := by simpa using hx0
      have HX0 := Lib.hid (hx.symm.trans hx0)
      clear hx0
      obtain ⟨b, o, u, rfl, -, hu, c0, c1, c2⟩ := cell_of_queues HL.out HQ.out
      have HU := Lib.hid hu
      obtain ⟨Au, cu, rfl, -⟩ := hu
      by_cases h5 : 4096 < (q.items.length : Int) + more.length
      · have HR := Lib.hid (sendR_many HF.out HQ.out HX0.out h5)
        go_enter Try.func15, Try.ntmps15
        go_wp2_with (first | (go_at_call 39; refine (found_at HL.out HF.out).mono ?_; rintro e w1 ⟨rfl, hb1⟩; replace c0 := cell_stays hb1 c0; replace c1 := cell_stays hb1 c1; replace c2 := cell_stays hb1 c2) | (go_at_call 40; refine (ritems_any more _ _ (HM.out.stays itemAt_stays hb1)).mono ?_; rw [← hx]; rintro e w2 ⟨rfl, hb2⟩; clear hx; replace c0 := cell_stays hb2 c0; replace c1 := cell_stays hb2 c1; replace c2 := cell_stays hb2 c2; have hbl := World.block_lt_of_cell? w2 _ c2; simp only at hbl))
        go_ret2
        rw [HR.out]
        exact ⟨_, rfl, nil_queues _, bel_tr hb1 hb2⟩
      · have HR := Lib.hid (sendR_ok HF.out HQ.out HX0.out h5)
        obtain ⟨csm, hmm1, hms, -⟩ := means_of_sl itemAt_movable HM.out
        obtain ⟨csq, hmq1, hmqs, -⟩ := means_of_sl itemAt_movable HU.out
        have HMM := Lib.hid hmm1
        have HMS := Lib.hid hms
        have HQM := Lib.hid hmq1
        have HQS := Lib.hid hmqs
        clear hmm1 hms hmq1 hmqs
        obtain ⟨i0, hi0, hz0, hz1, hz2⟩ := info_parts info_item
        go_enter Try.func15, Try.ntmps15
        go_wp2_with (first
          | (go_at_call 39; refine (found_at HL.out HF.out).mono ?_; rintro e w1 ⟨rfl, hb1⟩; replace c0 := cell_stays hb1 c0; replace c1 := cell_stays hb1 c1; replace c2 := cell_stays hb1 c2)
          | (go_at_call 40; refine (ritems_any more _ _ (HM.out.stays itemAt_stays hb1)).mono ?_; rw [← hx]; rintro e w2 ⟨rfl, hb2⟩; clear hx; replace c0 := cell_stays hb2 c0; replace c1 := cell_stays hb2 c1; replace c2 := cell_stays hb2 c2; have hbl := World.block_lt_of_cell? w2 _ c2; simp only at hbl)
          | (at_builtin; refine wpList_app _ rfl (.tmp 40) (.tmp 45) 24 rfl w2.heap.size 39 i0 _ 7 72 Try.underlying24 hi0 hz0 hz1 hz2 rfl (by decide) (.slice (some ⟨w2.heap.size, 0, none⟩) 0 0) 0 [] rfl (ownsRow_empty w2 _ _ _ (Nat.le_refl _)) Au q.items.length cu csq rfl (HQS.out.stays (bel_al (bel_tr hb1 hb2) _)) (by unfold maxLen; omega) (by omega) (by simp) ?_; intro v3 w3 hown3 hg3 hloc3; simp only [Nat.zero_add, List.nil_append] at hown3; have HO3 := Lib.hid hown3; have HB3 : Hid (Below w2.heap.size w2 w3) := Lib.hid ((bel_al (Below.refl _ w2) (.cells #[] 39)).trans (grown_below hg3 (by simp) (fun g h => Nat.le_of_eq (by simpa [Value.ownBlock] using h)))); clear hown3 hg3 hloc3)
          | (at_builtin; refine wpList_app _ rfl (.tmp 46) (.tmp 47) 24 rfl w2.heap.size 39 i0 _ 7 72 Try.underlying24 hi0 hz0 hz1 hz2 rfl (by decide) v3 q.items.length csq rfl HO3.out Am more.length cm csm rfl (HMS.out.stays (bel_tr (bel_tr hb1 hb2) HB3.out)) (by unfold maxLen; omega) (by omega) HB3.out.size ?_; intro v4 w4 hown4 hg4 hloc4; have HB4 : Hid (Below w2.heap.size w2 w4) := Lib.hid (HB3.out.trans (grown_below hg4 HB3.out.size (fun g h => (ownsRow_lt HO3.out h).1))); have HI4 := Lib.hid (sl_of_means (HQM.out.app HMM.out) (bel_tr (bel_tr hb1 hb2) HB4.out) (by rw [List.length_append]; exact hown4)); clear hown4 hg4 hloc4)
          | (go_at_call 41; refine (with_any l _ i (q.items ++ more) v4 _ (HL.out.stays queueAt_stays (bel_tr (bel_tr hb1 hb2) HB4.out)) HI4.out hil hsm (by rw [List.length_append]; omega)).mono ?_; rintro e w5 ⟨v5, rfl, hq5, hb5⟩))
        go_ret2
        rw [HR.out]
        exact ⟨_, rfl, hq5, bel_tr (bel_tr (bel_tr hb1 hb2) HB4.out) hb5⟩
    · have g2 : (x != 0) = true := by simpa using hx0
      have HR := Lib.hid (sendR_it (l := l) (f := f) (t := t) (by rw [HF.out]) (by rw [← hx]; exact hx0))
      clear hx0
      go_enter Try.func15, Try.ntmps15
      go_wp2_with (first | (go_at_call 39; refine (found_at HL.out HF.out).mono ?_; rintro e w1 ⟨rfl, hb1⟩) | (go_at_call 40; refine (ritems_any more _ _ (HM.out.stays itemAt_stays hb1)).mono ?_; rw [← hx]; rintro e w2 ⟨rfl, hb2⟩; clear hx))
      go_ret2
      rw [HR.out]
      exact ⟨_, by rw [← HX.out]; rfl, nil_queues _, bel_tr hb1 hb2⟩
  · obtain ⟨y, hy⟩ : ∃ y, y = (foundR l f t).2 := ⟨_, rfl⟩
    have hfy : foundR l f t = (0, y) := Prod.ext (found_no hf) hy.symm
    have HR := Lib.hid (sendR_no (more := more) hf)
    have g2 : (y != 0) = true := by rw [hy]; simpa using hf
    have HF := Lib.hid hfy
    have HY := Lib.hid hy
    clear hy hfy hf
    go_enter Try.func15, Try.ntmps15
    go_wp2_with (go_at_call 39; refine (found_at HL.out HF.out).mono ?_; rintro e w1 ⟨rfl, hb1⟩)
    go_ret2
    rw [HR.out]
    exact ⟨_, by rw [← HY.out]; rfl, nil_queues _, hb1⟩
end Go.Proofs.Yteonfoaemljndaa
