/- The reference's copy with other items: where its result lies. -/
import Derived.Test.YteonfoaemljndaaWith
namespace Go.Proofs.Yteonfoaemljndaa
open Go.RowKit

/-- what 'with' returns reads the same in every later world that keeps what lay in the world w0 and the blocks that 'with' made -/
def WithRet (w0 w : World) (r : List Queue) (x : Ending) (W : World) : Prop := ∃ v, x = .returned v ∧ Below w.heap.size w W ∧
  ∀ W', Below w0.heap.size w0 W' → (∀ b, w.heap.size ≤ b → b < W.heap.size → W'.heap[b]? = W.heap[b]?) → IsQueues W' v r

theorem queues_upd_at {W' : World} {g cap i : Nat} {l : List Queue} {vs spare : List Value} {v2 : Value} {xs : List Item} (hb : W'.heap[g]? = some (.cells ((qcells l vs ++ spare).set (i * 3 + 2) v2).toArray 69 (0, 0))) (hl : vs.length = l.length)
    (hil : i < l.length) (hi : ∀ (j : Nat) (v : Value) (q : Queue), j ≠ i → vs[j]? = some v → l[j]? = some q → IsItems W' v q.items)
    (h2 : IsItems W' v2 xs) (h3 : l.length ≤ cap) (h4 : cap ≤ maxLen) :
    IsQueues W' (.slice (some ⟨g, 0, none⟩) l.length cap) (setItems l i xs) := by
  have hlen := qcells_length l vs hl
  have hb2 : W'.heap[g]? = some (.cells (qcells (setItems l i xs) (vs.set i v2) ++ spare).toArray 69 (0, 0)) := by
    rw [hb, List.set_append_left _ _ (by omega), qcells_set l vs i v2 hl hil, qcells_setItems]
  have := queues_of_blk (cap := cap) hb2 (by rw [List.length_set, setItems_length, hl]) (fun j v q hv hq => ?_) (by rw [setItems_length]; exact h3) h4
  · rwa [setItems_length] at this
  · by_cases hji : i = j
    · subst hji
      rw [setItems_get (List.getElem?_eq_getElem hil)] at hq
      injection hq with hq
      subst hq
      simp only [List.getElem?_set_self' ] at hv
      rw [List.getElem?_eq_getElem (by omega)] at hv
      simp at hv
      subst hv
      exact h2
    · rw [setItems_ne hji] at hq
      rw [List.getElem?_set_ne hji] at hv
      exact hi j v q (Ne.symm hji) hv hq

set_option maxRecDepth 100000 in
set_option maxHeartbeats 1000000 in
theorem with_at (l : List Queue) (v : Value) (i : Nat) (xs : List Item) (vi : Value) (w0 w : World) (hb0 : Below w0.heap.size w0 w) (hl : IsQueues w0 v l) (hx : IsItems w0 vi xs) (hil : i < l.length) (hsm : l.length ≤ 1048576) (hxm : xs.length ≤ 1048576) :
    Calls Try.prog 41 #[v, .int .i64 i, vi] w (WithRet w0 w (setItems l i xs)) := by
  have HL := Lib.hid hl
  have HX := Lib.hid hx
  obtain ⟨A, c, rfl, -⟩ := hl
  obtain ⟨Ax, cx, rfl, -⟩ := hx
  obtain ⟨us, hus, hui, hsrc, -⟩ := src_of_queues HL.out
  obtain ⟨csx, hmx, hsx, -⟩ := means_of_sl itemAt_movable HX.out
  have HUS := Lib.hid hus
  have HUI := Lib.hid hui
  have HS := Lib.hid hsrc
  have HMX := Lib.hid hmx
  have HSX := Lib.hid hsx
  clear hus hui hsrc hmx hsx
  obtain ⟨i0, hi0, hz0, hz1, hz2⟩ := info_parts info_item
  obtain ⟨j0, hj0, hy0, hy1, hy2⟩ := info_parts info_queue
  have hil' : (i : Int) < (l.length : Int) := by omega
  obtain ⟨ui, HU⟩ : ∃ ui, Hid (us[i]? = some ui) := ⟨_, Lib.hid (List.getElem?_eq_getElem (by rw [HUS.out]; exact hil))⟩
  go_enter Try.func41, Try.ntmps41
  go_wp2_with (first
    | (at_builtin; refine wpList_app _ rfl (.tmp 8) (.tmp 9) 22 rfl w.heap.size 69 j0 _ 3 40 Try.underlying22 hj0 hy0 hy1 hy2 rfl (by decide) (.slice (some ⟨w.heap.size, 0, none⟩) 0 0) 0 [] rfl (ownsRow_empty w _ _ _ (Nat.le_refl _)) A l.length c (qcells l us) rfl (HS.out.stays (bel_al hb0 _)) (by unfold maxLen; omega) (by omega) (by simp) ?_; intro v1 w1 hown1 hg1 hloc1; clear hj0 hy0 hy1 hy2; obtain ⟨g, cap, spare, hv1, hgb, hblk, hcap, hcm⟩ := own_form hown1 (by omega); simp only [Nat.zero_add, List.nil_append] at hv1 hcap hblk; subst hv1; have HB1 := Lib.hid ((bel_al (Below.refl _ w) (.cells #[] 69)).trans (grown_below hg1 (by simp) (fun g h => Nat.le_of_eq (by simpa [Value.ownBlock] using h)))); have hgl := blk_lt hblk; have HBK := Lib.hid hblk; clear hown1 hg1 hloc1 hblk)
    | (at_builtin; refine wpList_app _ rfl (.tmp 13) (.tmp 14) 24 rfl w1.heap.size 39 i0 _ 7 72 Try.underlying24 hi0 hz0 hz1 hz2 rfl (by decide) (.slice (some ⟨w1.heap.size, 0, none⟩) 0 0) 0 [] rfl (ownsRow_empty w1 _ _ _ (Nat.le_refl _)) Ax xs.length cx csx rfl (HSX.out.stays (bel_al (bel_tr hb0 HB1.out) _)) (by unfold maxLen; omega) (by omega) (by simp) ?_; intro v2 w2 hown2 hg2 hloc2; clear hi0 hz0 hz1 hz2; simp only [Nat.zero_add, List.nil_append] at hown2; have HO2 := Lib.hid hown2; obtain ⟨A2, c2, rfl, -⟩ := ownsRow_src hown2 HMX.out.2.1; have HB2 : Hid (Below w1.heap.size w1 w2) := Lib.hid ((bel_al (Below.refl _ w1) (.cells #[] 39)).trans (grown_below hg2 (by simp) (fun g h => Nat.le_of_eq (by simpa [Value.ownBlock] using h)))); have HBK2 := Lib.hid ((HB2.out.block g hgl).trans HBK.out); have kc : w2.cell? ⟨g, i * 3 + 2, none⟩ = some ui := (by rw [blk_cell HBK2.out, List.getElem?_append_left (by rw [qcells_length l us HUS.out]; omega)]; exact (qcells_get 0 l us i _ _ (List.getElem?_eq_getElem hil) HU.out).2.2); have kf : w2.frozen? ⟨g, i * 3 + 2, none⟩ = false := blk_frozen HBK2.out _; clear hown2 hg2 hloc2))
  go_ret
  have hbw2 : Below w.heap.size w w2 := bel_tr HB1.out HB2.out
  have hbW := bel_set (i := i * 3 + 2) hbw2 hgb (.slice A2 xs.length c2)
  refine ⟨_, rfl, hbW, fun W' h0 hk => queues_upd_at (W' := W') ((hk g hgb (by rw [World.size_setCell]; exact blk_lt HBK2.out)).trans (blk_set HBK2.out _ _)) HUS.out hil (fun j u q _ hu hq => (HUI.out j u q hu hq).stays itemAt_stays h0) (sl_of_means HMX.out h0 (ownsRow_kept HO2.out (fun b hb => ?_))) hcap hcm⟩
  have h1 := ownsRow_lt HO2.out hb
  have h2 := HB1.out.size
  rw [hk b (by omega) (by rw [World.size_setCell]; exact h1.2)]
  exact Below.heap_setCell w2 ⟨g, i * 3 + 2, none⟩ _ b (fun e => by simp only at e; omega)

end Go.Proofs.Yteonfoaemljndaa
