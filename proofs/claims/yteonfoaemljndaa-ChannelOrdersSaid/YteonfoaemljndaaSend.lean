/- Send, as the program does it. -/
import Derived.Test.YteonfoaemljndaaQs
namespace Go.Proofs.Yteonfoaemljndaa
open Go.RowKit

def sendR (l : List Queue) (f t : Int) (more : List Item) : List Queue × Int :=
  if (foundR l f t).2 = 0 then
    if itemsErr more = 0 then
      match l[(foundR l f t).1.toNat]? with
      | some q => if 4096 < (q.items.length : Int) + more.length then ([], 5) else (setItems l (foundR l f t).1.toNat (q.items ++ more), 0)
      | none => ([], 0)
    else ([], itemsErr more)
  else ([], (foundR l f t).2)

theorem sendR_no {l : List Queue} {f t : Int} {more : List Item} (h : (foundR l f t).2 ≠ 0) : sendR l f t more = ([], (foundR l f t).2) := by unfold sendR; rw [if_neg h]
theorem sendR_it {l : List Queue} {f t : Int} {more : List Item} (h : (foundR l f t).2 = 0) (h2 : itemsErr more ≠ 0) : sendR l f t more = ([], itemsErr more) := by unfold sendR; rw [if_pos h, if_neg h2]
theorem sendR_many {l : List Queue} {f t : Int} {more : List Item} {i : Nat} {q : Queue} (hf : foundR l f t = ((i : Int), 0)) (hq : l[i]? = some q) (h2 : itemsErr more = 0) (h3 : 4096 < (q.items.length : Int) + more.length) : sendR l f t more = ([], 5) := by
  unfold sendR; rw [hf]; simp [h2, hq, h3]
theorem sendR_ok {l : List Queue} {f t : Int} {more : List Item} {i : Nat} {q : Queue} (hf : foundR l f t = ((i : Int), 0)) (hq : l[i]? = some q) (h2 : itemsErr more = 0) (h3 : ¬ 4096 < (q.items.length : Int) + more.length) : sendR l f t more = (setItems l i (q.items ++ more), 0) := by
  unfold sendR; rw [hf]; simp only [if_true, h2, Int.toNat_natCast, hq, if_neg h3]

theorem nil_queues (W : World) : IsQueues W (.slice none 0 0) [] := Sl.nil _ _ _ _ _ (Nat.zero_le _)

theorem cell_of_queues {w : World} {A : Option Addr} {n c : Nat} {l : List Queue} (h : IsQueues w (.slice A n c) l) {i : Nat} {q : Queue} (hq : l[i]? = some q) :
    ∃ b o v, A = some ⟨b, o, none⟩ ∧ n = l.length ∧ IsItems w v q.items ∧ w.cell? ⟨b, o + i * 3, none⟩ = some (.int .i64 q.frm) ∧ w.cell? ⟨b, o + i * 3 + 1, none⟩ = some (.int .i64 q.to) ∧ w.cell? ⟨b, o + i * 3 + 2, none⟩ = some v := by
  obtain ⟨A', c', hv, _, _, hat⟩ := h
  injection hv with e1 e2 e3
  subst e1 e2 e3
  obtain ⟨b, o, hA, v, hv, c0, c1, c2⟩ := hat i q hq
  exact ⟨b, o, v, hA, rfl, hv, c0, c1, c2⟩

set_option maxRecDepth 100000 in
set_option maxHeartbeats 1000000 in
theorem send_any (l : List Queue) (v : Value) (f t : Int) (more : List Item) (vm : Value) (w : World) (hl : IsQueues w v l) (hm : IsItems w vm more) (hsm : l.length ≤ 1048576) (hit : ∀ q ∈ l, q.items.length ≤ 1048576) (hmm : more.length ≤ 1048576) :
    Calls Try.prog 14 #[v, .int .i64 f, .int .i64 t, vm] w (QsRet w (sendR l f t more)) := by
  have HL := Lib.hid hl
  have HM := Lib.hid hm
  have HIT := Lib.hid hit
  clear hit
  obtain ⟨A, c, rfl, -⟩ := hl
  obtain ⟨Am, cm, rfl, -⟩ := hm
  by_cases hf : (foundR l f t).2 = 0
  · obtain ⟨i, q, hfi, hc0, hfq, hq⟩ := found_ok hf
    have HF := Lib.hid hfi
    have HQ := Lib.hid hq
    have hil := (List.getElem?_eq_some_iff.1 hq).1
    have hqi := HIT.out q (List.mem_of_getElem? hq)
    clear hf hfi hc0 hfq hq
    obtain ⟨x, hx⟩ : ∃ x, x = itemsErr more := ⟨_, rfl⟩
    have HX := Lib.hid hx
    by_cases hx0 : x = 0
    · have g1 : (x == 0) = true := by simpa using hx0
      have HX0 := Lib.hid (hx.symm.trans hx0)
      clear hx0
      obtain ⟨b, o, u, rfl, -, hu, c0, c1, c2⟩ := cell_of_queues HL.out HQ.out
      obtain ⟨Au, cu, rfl, -⟩ := id hu
      by_cases h5 : 4096 < (q.items.length : Int) + more.length
      · have HR := Lib.hid (sendR_many HF.out HQ.out HX0.out h5)
        go_enter Try.func14, Try.ntmps14
        go_wp2_with (first | (go_at_call 36; refine (find_at HL.out hsm HF.out).mono ?_; rintro e w1 ⟨rfl, hb1⟩; replace c0 := cell_stays hb1 c0; replace c1 := cell_stays hb1 c1; replace c2 := cell_stays hb1 c2) | (go_at_call 37; refine (items_any more _ _ (HM.out.stays itemAt_stays hb1)).mono ?_; rw [← hx]; rintro e w2 ⟨rfl, hb2⟩; clear hx; replace c0 := cell_stays hb2 c0; replace c1 := cell_stays hb2 c1; replace c2 := cell_stays hb2 c2))
        go_ret2
        rw [HR.out]
        exact ⟨_, rfl, nil_queues _, bel_tr hb1 hb2⟩
      · have HR := Lib.hid (sendR_ok HF.out HQ.out HX0.out h5)
        obtain ⟨csm, hmm1, hms, -⟩ := means_of_sl itemAt_movable HM.out
        have HMM := Lib.hid hmm1
        have HMS := Lib.hid hms
        clear hmm1 hms
        obtain ⟨i0, hi0, hz0, hz1, hz2⟩ := info_parts info_item
        go_enter Try.func14, Try.ntmps14
        go_wp2_with (first | (go_at_call 36; refine (find_at HL.out hsm HF.out).mono ?_; rintro e w1 ⟨rfl, hb1⟩; replace c0 := cell_stays hb1 c0; replace c1 := cell_stays hb1 c1; replace c2 := cell_stays hb1 c2) | (go_at_call 37; refine (items_any more _ _ (HM.out.stays itemAt_stays hb1)).mono ?_; rw [← hx]; rintro e w2 ⟨rfl, hb2⟩; clear hx; replace c0 := cell_stays hb2 c0; replace c1 := cell_stays hb2 c1; replace c2 := cell_stays hb2 c2))
        refine (copied_any l _ w _ (bel_tr hb1 hb2) HL.out hsm HIT.out).mono ?_
        rintro e w3 hret
        rcases hret with ⟨-, ⟨h0, _⟩ | ⟨v3, vs, g, cap, spare, rfl, hcop⟩⟩
        · rw [h0] at hil; simp at hil
        have hvl : i < vs.length := by rw [hcop.len]; exact hil
        obtain ⟨u3, hu3⟩ : ∃ u3, vs[i]? = some u3 := ⟨_, List.getElem?_eq_getElem hvl⟩
        obtain ⟨-, -, k2⟩ := hcop.cell HQ.out hu3
        obtain ⟨cs, hm0, ho0, hn0⟩ := hcop.own.row i u3 q hu3 HQ.out
        obtain ⟨A3, c3, rfl, -, -, -⟩ := ownsRow_src ho0 hm0.2.1
        have hgl := blk_lt hcop.blk
        have HCOP := Lib.hid hcop
        have HU3 := Lib.hid hu3
        have HM0 := Lib.hid hm0
        have HN0 := Lib.hid hn0
        have HO0 := Lib.hid ho0
        have HCS : Hid (w2.heap.size ≤ w3.heap.size) := Lib.hid (Nat.le_of_lt (Nat.lt_of_le_of_lt hcop.base hgl))
        have hval := hcop.val
        have hcap := hcop.le
        subst hval
        have hil' : (i : Int) < (l.length : Int) := by omega
        clear hcop hu3 hm0 hn0 ho0
        go_wp2_with (at_builtin; refine wpList_app _ rfl (.tmp 49) (.tmp 50) 24 rfl w2.heap.size 39 i0 _ 7 72 Try.underlying24 hi0 hz0 hz1 hz2 rfl (by decide) (.slice A3 q.items.length c3) q.items.length cs rfl HO0.out Am more.length cm csm rfl (HMS.out.stays HCOP.out.bel) (by unfold maxLen; omega) (by omega) HCS.out ?_; intro v4 w4 hown4 hg4 hloc; have HO4 := Lib.hid hown4; have HG4 := Lib.hid hg4; have HL4 := Lib.hid hloc; obtain ⟨A4, c4, rfl, -⟩ := ownsRow_src hown4 (HM0.out.app HMM.out).2.1; have hb4 := (hg4.block g hgl (Ne.symm HN0.out)).trans HCOP.out.blk; replace k2 : w4.cell? ⟨g, i * 3 + 2, none⟩ = some (.slice A3 q.items.length c3) := (World.cell?_of_block (hg4.block g hgl (Ne.symm HN0.out))).trans k2; have kf : w4.frozen? ⟨g, i * 3 + 2, none⟩ = false := blk_frozen hb4 _; clear hown4 hg4 hloc hb4)
        go_ret2
        rw [HR.out]
        have hfin := HCOP.out.upd HQ.out HU3.out (HM0.out.app HMM.out) (by rw [List.length_append]; exact HO4.out) HG4.out (fun b' hb' => by
          rcases HL4.out with h | h
          · exact .inl (h ▸ hb')
          · rw [h] at hb'; injection hb' with hb'; exact .inr (Nat.le_of_eq hb'))
        exact ⟨_, rfl, hfin.queues, hfin.bel⟩
    · have g1 : (x == 0) = false := by simpa using hx0
      have g2 : (x != 0) = true := by simpa using hx0
      have HR := Lib.hid (sendR_it (l := l) (f := f) (t := t) (by rw [HF.out]) (by rw [← hx]; exact hx0))
      clear hx0
      go_enter Try.func14, Try.ntmps14
      go_wp2_with (first | (go_at_call 36; refine (find_at HL.out hsm HF.out).mono ?_; rintro e w1 ⟨rfl, hb1⟩) | (go_at_call 37; refine (items_any more _ _ (HM.out.stays itemAt_stays hb1)).mono ?_; rw [← hx]; rintro e w2 ⟨rfl, hb2⟩; clear hx))
      go_ret2
      rw [HR.out]
      exact ⟨_, by rw [← HX.out]; rfl, nil_queues _, bel_tr hb1 hb2⟩
  · obtain ⟨y, hy⟩ : ∃ y, y = (foundR l f t).2 := ⟨_, rfl⟩
    have hfy : foundR l f t = (0, y) := Prod.ext (found_no hf) hy.symm
    have HR := Lib.hid (sendR_no (more := more) hf)
    have g1 : (y == 0) = false := by rw [hy]; simpa using hf
    have g2 : (y != 0) = true := by rw [hy]; simpa using hf
    have HF := Lib.hid hfy
    have HY := Lib.hid hy
    clear hy hfy hf
    go_enter Try.func14, Try.ntmps14
    go_wp2_with (go_at_call 36; refine (find_at HL.out hsm HF.out).mono ?_; rintro e w1 ⟨rfl, hb1⟩)
    go_ret2
    rw [HR.out]
    exact ⟨_, by rw [← HY.out]; rfl, nil_queues _, hb1⟩
end Go.Proofs.Yteonfoaemljndaa
