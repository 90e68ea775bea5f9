/- channel.copied: the queues, each with a row of items of its own. -/
import Derived.Test.YteonfoaemljndaaCop
namespace Go.Proofs.Yteonfoaemljndaa
open Go.RowKit

theorem set_mid {α : Type} (vs us : List α) (v : α) (k : Nat) (hk : vs.length = k) (hu : k < us.length) : (vs ++ us.drop k).set k v = (vs ++ [v]) ++ us.drop (k + 1) := by
  subst hk
  rw [List.set_append_right _ _ (Nat.le_refl _), List.drop_eq_getElem_cons hu]
  simp only [Nat.sub_self, List.set_cons_zero, List.append_assoc, List.singleton_append]

theorem mid_len {vs us : List Value} {l : List Queue} {k : Nat} (hk : vs.length = k) (hkl : k ≤ l.length) (hus : us.length = l.length) : (vs ++ us.drop k).length = l.length := by
  simp [hk, hus]; omega

theorem copied_step {w wr w2 : World} {B g k : Nat} {l : List Queue} {us vs spare cs : List Value} {q : Queue} {v2 : Value} (hk : vs.length = k) (hkl : k < l.length) (hq : l[k]? = some q) (hus : us.length = l.length)
    (hblk : wr.heap[g]? = some (.cells (qcells l (vs ++ us.drop k) ++ spare).toArray 69 (0, 0))) (hown : OwnList w B wr g l vs) (hbw : Below w.heap.size w wr) (hb2 : Below wr.heap.size wr w2)
    (hm : Means ItemAt 7 w cs q.items) (ho2 : w2.ownsRow wr.heap.size 39 7 v2 q.items.length cs) (hg : w.heap.size ≤ g) (hB : B ≤ wr.heap.size) :
    (w2.setCell ⟨g, k * 3 + 2, none⟩ v2).heap[g]? = some (.cells (qcells l ((vs ++ [v2]) ++ us.drop (k + 1)) ++ spare).toArray 69 (0, 0)) ∧
    OwnList w B (w2.setCell ⟨g, k * 3 + 2, none⟩ v2) g l (vs ++ [v2]) ∧ Below w.heap.size w (w2.setCell ⟨g, k * 3 + 2, none⟩ v2) := by
  have hml := mid_len hk (Nat.le_of_lt hkl) hus
  have hglt := blk_lt hblk
  have hblk2 := (hb2.block g hglt).trans hblk
  refine ⟨?_, ?_, bel_set (bel_tr hbw hb2) hg _⟩
  · rw [blk_set hblk2, List.set_append_left _ _ (by rw [qcells_length l _ hml]; omega), qcells_set l _ k v2 hml hkl, set_mid vs us v2 k hk (by omega)]
  · have h1 : OwnList w B w2 g l vs := hown.kept fun b hb _ => hb2.block b hb
    have h2 := h1.snoc (v := v2) (q := q) (cs := cs) (base := wr.heap.size) (by rw [hk]; exact hq) hm ho2 hB hglt (fun j u b hu hb => by
      have hj := (List.getElem?_eq_some_iff.1 hu).1
      obtain ⟨cs', _, ho, _⟩ := hown.row j u _ hu (List.getElem?_eq_getElem (by omega))
      exact (ownsRow_lt ho hb).2)
    exact h2.kept fun b _ hbg => Below.heap_setCell w2 ⟨g, k * 3 + 2, none⟩ v2 b hbg

def CopiedRet (w0 w : World) (l : List Queue) (x : Ending) (W : World) : Prop :=
  Below w.heap.size w W ∧ ((l = [] ∧ (∃ A c, x = .returned (.slice A 0 c) ∧ c ≤ maxLen)) ∨ (∃ v vs g cap spare, x = .returned v ∧ Copied w0 w.heap.size W v l vs g cap spare))

theorem qcells_one : ∀ (l : List Queue) (vs : List Value), (∀ u ∈ vs, u.oneCell' = true) → ∀ u ∈ qcells l vs, u.oneCell' = true
  | [], _, _, u, h => by simp [qcells] at h
  | _ :: _, [], _, u, h => by simp [qcells] at h
  | q :: l, v :: vs, hv, u, h => by
    simp only [qcells, List.mem_cons] at h
    rcases h with h | h | h | h
    · rw [h]; rfl
    · rw [h]; rfl
    · rw [h]; exact hv v (by simp)
    · exact qcells_one l vs (fun x hx => hv x (by simp [hx])) u h

set_option maxHeartbeats 1000000 in
theorem copied_any (l : List Queue) (v : Value) (w0 w : World) (h0w : Below w0.heap.size w0 w) (hl : IsQueues w0 v l) (hn : l.length ≤ 1048576) (hit : ∀ q ∈ l, q.items.length ≤ 1048576) :
    Calls Try.prog 38 #[v] w (CopiedRet w0 w l) := by
  obtain ⟨A, c, rfl, hlc, hcm, hat⟩ := hl
  cases hl0 : l with
  | nil =>
    subst hl0
    clear hat hit
    go_enter Try.func38, Try.ntmps38
    go_wp2_with fail
    refine (cloneQueues A 0 c [] _ (Src.nil _ _ _) (by omega)).mono ?_
    rintro e w1 ⟨v', rfl, hown, hb1⟩
    obtain ⟨A', c', rfl, _, hc', _⟩ := ownsRow_src hown (by simp)
    go_wp2
    refine wp_loop_rounds 1 ?_
    rw [rounds_succ]
    go_wp2
    go_ret
    exact ⟨hb1, .inl ⟨rfl, ⟨_, _, rfl, hc'⟩⟩⟩
  | cons q0 l0 =>
    rw [← hl0]
    obtain ⟨b, o, rfl, _⟩ := hat 0 q0 (by rw [hl0]; rfl)
    have hS : SlAt QueueAt 3 w0 b o l := fun k x hk => by
      obtain ⟨b', o', hA, hR⟩ := hat k x hk
      injection hA with hA
      injection hA with e1 e2
      subst e1 e2
      exact hR
    obtain ⟨us, hus, hui, huc⟩ := queues_cells l o hS
    have hone : ∀ u ∈ us, u.oneCell' = true := fun u hu => by
      obtain ⟨j, hj⟩ := List.mem_iff_getElem?.1 hu
      have hjl := (List.getElem?_eq_some_iff.1 hj).1
      exact sl_oneCell (hui j u _ hj (List.getElem?_eq_getElem (by omega)))
    have hsrc : Src w0 (some ⟨b, o, none⟩) l.length 3 (qcells l us) := ⟨qcells_length l us hus, qcells_one l us hone, fun _ => ⟨b, o, rfl, huc⟩⟩
    have hpos : 0 < l.length := by rw [hl0]; simp
    have HS := Lib.hid hsrc
    have HU := Lib.hid hui
    have HUS := Lib.hid hus
    have HIT := Lib.hid hit
    clear hat hS hl0 huc hsrc hui hone hit
    go_enter Try.func38, Try.ntmps38
    go_wp2_with fail
    refine (cloneQueues _ _ c _ _ (HS.out.stays h0w) hn).mono ?_
    rintro e w1 ⟨v', rfl, hown, hb1⟩
    rcases hown.2 with ⟨_, h0⟩ | ⟨g, cap, cur, rfl, hg, hh, hnc, hcm2, hcs, htake⟩
    · omega
    have hcur : w1.heap[g]? = some (.cells (qcells l ([] ++ us.drop 0) ++ cur.toList.drop (l.length * 3)).toArray 69 (0, 0)) := by
      rw [hh]; simp only [List.nil_append, List.drop_zero]; rw [← htake, List.take_append_drop]
    obtain ⟨spare, hsp⟩ : ∃ spare, spare = cur.toList.drop (l.length * 3) := ⟨_, rfl⟩
    rw [← hsp] at hcur
    have HC := Lib.hid hcur
    clear hcur hsp htake hcs hh hown
    go_wp2
    go_loopw [9] (fun i wr => ∃ (k : Nat) (vs : List Value), k ≤ l.length ∧ i = .int .i64 k ∧ Hid (vs.length = k ∧ wr.heap[g]? = some (.cells (qcells l (vs ++ us.drop k) ++ spare).toArray 69 (0, 0)) ∧ OwnList w0 w.heap.size wr g l vs ∧ Below w0.heap.size w0 wr ∧ Below w.heap.size w wr)) (fun i _ => l.length - (intOf i).toNat)
    case atStart => exact ⟨0, [], Nat.zero_le _, rfl, rfl, HC.out, ⟨fun j v q h => by simp at h, fun i j u v b h => by simp at h⟩, bel_tr h0w hb1, hb1⟩
    case round =>
      obtain ⟨k, vs, hk, rfl, HI⟩ := hrel
      by_cases hlt : k < l.length
      · have hlu : k < us.length := by rw [HUS.out]; exact hlt
        have hi0 := HU.out k us[k] l[k] (List.getElem?_eq_getElem hlu) (List.getElem?_eq_getElem hlt)
        have hget := Lib.hid (List.getElem?_eq_getElem hlt)
        obtain ⟨q, hq⟩ : ∃ q, q = l[k] := ⟨_, rfl⟩
        obtain ⟨u, hu⟩ : ∃ u, u = us[k] := ⟨_, rfl⟩
        have hqi := HIT.out q (by rw [hq]; exact List.getElem_mem hlt)
        have hcell : wr.cell? ⟨g, k * 3 + 2, none⟩ = some u := by
          rw [blk_cell HI.out.2.1, List.getElem?_append_left (by rw [qcells_length l _ (mid_len HI.out.1 hk HUS.out)]; omega)]
          refine (qcells_get 0 l _ k q u (by rw [hq]; exact List.getElem?_eq_getElem hlt) ?_).2.2
          rw [List.getElem?_append_right (by rw [HI.out.1]; exact Nat.le_refl _), HI.out.1, Nat.sub_self, List.getElem?_drop, Nat.add_zero, hu, List.getElem?_eq_getElem hlu]
        have hfz : wr.frozen? ⟨g, k * 3 + 2, none⟩ = false := blk_frozen HI.out.2.1 _
        have hgl : g < wr.heap.size := blk_lt HI.out.2.1
        rw [← hq, ← hu] at hi0
        rw [← hq] at hget
        clear hq hu
        obtain ⟨Au, cu, rfl, -⟩ := id hi0
        obtain ⟨cs, hmean, hsrc, -⟩ := means_of_sl itemAt_movable hi0
        have HM := Lib.hid hmean
        have HS2 := Lib.hid (hsrc.stays HI.out.2.2.2.1)
        clear hmean hsrc hi0
        go_wp2_with (go_at_call 45; refine (cloneItems Au _ cu cs _ HS2.out hqi).mono ?_; rintro e w2 ⟨v2, rfl, hown2, hb2⟩; have HO2 := Lib.hid hown2; obtain ⟨A2, c2, rfl, -⟩ := ownsRow_src hown2 HM.out.2.1; clear hown2; replace hcell := cell_stays hb2 hcell; replace hfz : w2.frozen? ⟨g, k * 3 + 2, none⟩ = false := (hb2.frozen (p := ⟨g, k * 3 + 2, none⟩) hgl).trans hfz)
        obtain ⟨r1, r2, r3⟩ := copied_step (v2 := .slice A2 q.items.length c2) HI.out.1 hlt hget.out HUS.out HI.out.2.1 HI.out.2.2.1 HI.out.2.2.2.1 hb2 HM.out HO2.out (Nat.le_trans h0w.size hg) HI.out.2.2.2.2.size
        go_roundw
        case rel => exact ⟨k + 1, vs ++ [.slice A2 q.items.length c2], by omega, by go_num, by simp [HI.out.1], r1, r2, r3, bel_set (bel_tr HI.out.2.2.2.2 hb2) hg _⟩
        case measure => simp [intOf]; omega
      · obtain rfl : k = l.length := by omega
        go_wp2
        go_ret
        obtain ⟨h1, h2, h3, h4, h5⟩ := HI.out
        rw [← HUS.out, List.drop_length, List.append_nil] at h2
        exact ⟨h5, .inr ⟨_, vs, g, cap, spare, rfl, rfl, hnc, hcm2, hg, h0w.size, h2, h1, h3, h4⟩⟩
end Go.Proofs.Yteonfoaemljndaa
