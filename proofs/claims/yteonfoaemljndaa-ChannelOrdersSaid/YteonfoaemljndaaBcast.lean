/- Broadcast, as the program does it. -/
import Derived.Test.YteonfoaemljndaaReady
namespace Go.Proofs.Yteonfoaemljndaa
open Go.RowKit

def updQ (f : Int) (x : Item) (q : Queue) : Queue := if q.frm = f then withItems q (q.items ++ [x]) else q
def fullQ (f : Int) (q : Queue) : Bool := q.frm == f && ((q.items.length : Int) == 4096)
def bcastR (l : List Queue) (f : Int) (x : Item) : List Queue × Int :=
  if checkErr l = 0 then (if itemErr x = 0 then (if l.any (fullQ f) then ([], 5) else (l.map (updQ f x), 0)) else ([], itemErr x)) else ([], checkErr l)
theorem bcastR_chk {l : List Queue} {f : Int} {x : Item} (h : checkErr l ≠ 0) : bcastR l f x = ([], checkErr l) := by unfold bcastR; rw [if_neg h]
theorem bcastR_item {l : List Queue} {f : Int} {x : Item} (h : checkErr l = 0) (h2 : itemErr x ≠ 0) : bcastR l f x = ([], itemErr x) := by unfold bcastR; rw [if_pos h, if_neg h2]
theorem bcastR_full {l : List Queue} {f : Int} {x : Item} (h : checkErr l = 0) (h2 : itemErr x = 0) {k : Nat} {q : Queue} (hq : l[k]? = some q) (h3 : fullQ f q = true) : bcastR l f x = ([], 5) := by
  have : l.any (fullQ f) = true := List.any_eq_true.2 ⟨q, List.mem_of_getElem? hq, h3⟩
  unfold bcastR; rw [if_pos h, if_pos h2, this]; rfl
theorem bcastR_ok {l : List Queue} {f : Int} {x : Item} (h : checkErr l = 0) (h2 : itemErr x = 0) (h3 : ∀ q ∈ l, fullQ f q = false) : bcastR l f x = (l.map (updQ f x), 0) := by
  have : l.any (fullQ f) = false := by rw [List.any_eq_false]; intro q hq; simp [h3 q hq]
  unfold bcastR; rw [if_pos h, if_pos h2, this]; rfl

def doneQ (f : Int) (x : Item) (l : List Queue) (k : Nat) : List Queue := (l.take k).map (updQ f x) ++ l.drop k
theorem doneQ_zero (f : Int) (x : Item) (l : List Queue) : doneQ f x l 0 = l := by simp [doneQ]
theorem doneQ_end (f : Int) (x : Item) (l : List Queue) : doneQ f x l l.length = l.map (updQ f x) := by simp [doneQ]
theorem doneQ_length (f : Int) (x : Item) (l : List Queue) (k : Nat) (hk : k ≤ l.length) : (doneQ f x l k).length = l.length := by simp [doneQ]; omega
theorem doneQ_get {f : Int} {x : Item} {l : List Queue} {k : Nat} {q : Queue} (h : l[k]? = some q) : (doneQ f x l k)[k]? = some q := by
  have hk := (List.getElem?_eq_some_iff.1 h).1
  unfold doneQ
  have hl : ((l.take k).map (updQ f x)).length = k := by simp; omega
  rw [List.getElem?_append_right (by omega), hl, Nat.sub_self, List.getElem?_drop, Nat.add_zero]
  exact h
theorem doneQ_succ {f : Int} {x : Item} {l : List Queue} {k : Nat} {q : Queue} (h : l[k]? = some q) : doneQ f x l (k + 1) = (doneQ f x l k).set k (updQ f x q) := by
  obtain ⟨hk, rfl⟩ := List.getElem?_eq_some_iff.1 h
  unfold doneQ
  have hl : ((l.take k).map (updQ f x)).length = k := by simp; omega
  rw [take_snoc' h, List.map_append, List.set_append_right _ _ (by omega), hl, Nat.sub_self, List.drop_eq_getElem_cons hk]
  simp only [List.set_cons_zero, List.map_cons, List.map_nil, List.append_assoc, List.singleton_append]
theorem doneQ_skip {f : Int} {x : Item} {l : List Queue} {k : Nat} {q : Queue} (h : l[k]? = some q) (hf : ¬ q.frm = f) : doneQ f x l (k + 1) = doneQ f x l k := by
  rw [doneQ_succ h]
  have h1 := doneQ_get (f := f) (x := x) h
  obtain ⟨hk, he⟩ := List.getElem?_eq_some_iff.1 h1
  have : updQ f x q = q := by simp [updQ, hf]
  rw [this, ← he, List.set_getElem_self]
theorem doneQ_take {f : Int} {x : Item} {l : List Queue} {k : Nat} {q : Queue} (h : l[k]? = some q) (hf : q.frm = f) : doneQ f x l (k + 1) = setItems (doneQ f x l k) k (q.items ++ [x]) := by
  rw [doneQ_succ h]
  unfold setItems
  rw [doneQ_get h]
  simp [updQ, hf]

theorem Copied.grow {w W W' : World} {B : Nat} {v : Value} {l : List Queue} {vs : List Value} {g cap : Nat} {spare : List Value} (h : Copied w B W v l vs g cap spare) (hb : Below W.heap.size W W') : Copied w B W' v l vs g cap spare :=
  ⟨h.val, h.le, h.capm, h.base, h.wB, (hb.block g (blk_lt h.blk)).trans h.blk, h.len, h.own.kept (fun b hbl _ => hb.block b hbl), bel_tr h.bel hb⟩

def itemCells (x : Item) (v : Value) : List Value := [.int .i64 x.kind, .int .i64 x.source, .int .i64 x.seq, .int .i64 x.type, .int .i64 x.time, v, .int .i64 x.number]
theorem item_means {w : World} {x : Item} {v : Value} (h : IsVals w v x.values) : Means ItemAt 7 w (itemCells x v) [x] := by
  refine ⟨rfl, ?_, ?_⟩
  · have hv1 := sl_oneCell h
    intro u hu
    simp only [itemCells, List.mem_cons, List.not_mem_nil, or_false] at hu
    rcases hu with h | h | h | h | h | h | h <;> rw [h] <;> first | rfl | exact hv1
  · intro W b o hb hc k y hk
    cases k with
    | zero =>
      simp at hk; subst hk
      refine ⟨v, h.stays valAt_stays hb, ?_, ?_, ?_, ?_, ?_, ?_, ?_⟩
      · simpa using hc 0 _ rfl
      · simpa using hc 1 _ rfl
      · simpa using hc 2 _ rfl
      · simpa using hc 3 _ rfl
      · simpa using hc 4 _ rfl
      · simpa using hc 5 _ rfl
      · simpa using hc 6 _ rfl
    | succ k => simp at hk

set_option maxRecDepth 100000 in
set_option maxHeartbeats 1000000 in
theorem broadcast_any (l : List Queue) (v : Value) (f : Int) (x : Item) (vx : Value) (w : World) (hl : IsQueues w v l) (hx : IsVals w vx x.values) (hsm : l.length ≤ 1048576) (hit : ∀ q ∈ l, q.items.length ≤ 1048576) :
    Calls Try.prog 17 #[v, .int .i64 f, itemV x vx] w (QsRet w (bcastR l f x)) := by
  have HL := Lib.hid hl
  have HX := Lib.hid hx
  have HIT := Lib.hid hit
  clear hit
  obtain ⟨A, c, rfl, -⟩ := hl
  obtain ⟨Ax, cx, rfl, -⟩ := hx
  obtain ⟨e1, he1⟩ : ∃ e1, e1 = checkErr l := ⟨_, rfl⟩
  obtain ⟨e2, he2⟩ : ∃ e2, e2 = itemErr x := ⟨_, rfl⟩
  have HE1 := Lib.hid he1
  have HE2 := Lib.hid he2
  unfold itemV
  by_cases g1 : (e1 != 0) = true
  · have HR := Lib.hid (bcastR_chk (f := f) (x := x) (by rw [← he1]; simpa using g1 : checkErr l ≠ 0))
    go_enter Try.func17, Try.ntmps17
    go_wp2_with (go_at_call 19; refine (check_any l _ _ (HL.out.stays queueAt_stays (bel_one _ _))).mono ?_; rw [← he1]; rintro e w1 ⟨rfl, hb1⟩; clear he1)
    go_ret2
    rw [HR.out, ← HE1.out]
    exact ⟨_, rfl, nil_queues _, bel_tr (bel_one _ _) hb1⟩
  · simp only [Bool.not_eq_true] at g1
    have HC0 := Lib.hid (by rw [← he1]; simpa using g1 : checkErr l = 0)
    by_cases g2 : (e2 != 0) = true
    · have HR := Lib.hid (bcastR_item (f := f) (x := x) HC0.out (by rw [← he2]; simpa using g2))
      go_enter Try.func17, Try.ntmps17
      go_wp2_with (first
        | (go_at_call 19; refine (check_any l _ _ (HL.out.stays queueAt_stays (bel_one _ _))).mono ?_; rw [← he1]; rintro e w1 ⟨rfl, hb1⟩; clear he1; obtain ⟨hz, hzf⟩ := new_cells hb1)
        | (go_at_call 42; refine (item_any x Ax cx _).mono ?_; rw [← he2]; rintro e w2 ⟨rfl, hb2⟩; clear he2))
      go_ret2
      rw [HR.out, ← HE2.out]
      exact ⟨_, rfl, nil_queues _, bel_tr (bel_tr (bel_one _ _) hb1) hb2⟩
    · simp only [Bool.not_eq_true] at g2
      have HI0 := Lib.hid (by rw [← he2]; simpa using g2 : itemErr x = 0)
      obtain ⟨i0, hi0, hz0, hz1, hz2⟩ := info_parts info_item
      go_enter Try.func17, Try.ntmps17
      go_wp2_with (first
        | (go_at_call 19; refine (check_any l _ _ (HL.out.stays queueAt_stays (bel_one _ _))).mono ?_; rw [← he1]; rintro e w1 ⟨rfl, hb1⟩; clear he1; obtain ⟨hz, hzf⟩ := new_cells hb1)
        | (go_at_call 42; refine (item_any x Ax cx _).mono ?_; rw [← he2]; rintro e w2 ⟨rfl, hb2⟩; clear he2 hz hzf))
      refine (copied_any l _ w _ (bel_tr (bel_tr (bel_one _ _) hb1) hb2) HL.out hsm HIT.out).mono ?_
      rintro e w3 hret
      rcases hret with ⟨hb3, ⟨h0, A0, c0, rfl, hc0⟩ | ⟨v3, vs0, g, cap, spare, rfl, hcop⟩⟩
      · subst h0
        have HR := Lib.hid (bcastR_ok (f := f) HC0.out HI0.out (by simp))
        go_wp2
        refine wp_loop_rounds 1 ?_
        rw [rounds_succ]
        go_wp2
        go_ret2
        rw [HR.out]
        exact ⟨_, rfl, Sl.nil _ _ _ _ _ hc0, bel_tr (bel_tr (bel_tr (bel_one _ _) hb1) hb2) hb3⟩
      · have hval := hcop.val
        subst hval
        have HCOP := Lib.hid hcop
        clear hcop
        go_wp2
        go_loopw [27] (fun i wr => ∃ (k : Nat) (vs : List Value), k ≤ l.length ∧ i = .int .i64 k ∧ Hid (Copied w w2.heap.size wr (.slice (some ⟨g, 0, none⟩) l.length cap) (doneQ f x l k) vs g cap spare ∧ Below w2.heap.size w2 wr ∧ ∀ q ∈ l.take k, fullQ f q = false)) (fun i _ => l.length - (intOf i).toNat)
        case atStart => exact ⟨0, vs0, Nat.zero_le _, rfl, by rw [doneQ_zero]; exact HCOP.out, hb3, by simp⟩
        case round =>
          obtain ⟨k, vs, hk, rfl, HI⟩ := hrel
          by_cases hlt : k < l.length
          · have hget := Lib.hid (List.getElem?_eq_getElem hlt)
            obtain ⟨q, hq⟩ : ∃ q, q = l[k] := ⟨_, rfl⟩
            have hqi := HIT.out q (by rw [hq]; exact List.getElem_mem hlt)
            rw [← hq] at hget
            clear hq
            have hcop := HI.out.1
            have hdl := doneQ_length f x l k hk
            have hvl : k < vs.length := by rw [hcop.len, hdl]; exact hlt
            obtain ⟨u3, hu3⟩ : ∃ u3, vs[k]? = some u3 := ⟨_, List.getElem?_eq_getElem hvl⟩
            obtain ⟨c0, c1, c2⟩ := hcop.cell (doneQ_get hget.out) hu3
            obtain ⟨cs, hm0, ho0, hn0⟩ := hcop.own.row k u3 q hu3 (doneQ_get hget.out)
            obtain ⟨A3, c3, rfl, -, -, -⟩ := ownsRow_src ho0 hm0.2.1
            have hgl := blk_lt hcop.blk
            have hz := (new_cells (bel_tr (bel_tr hb1 hb2) HI.out.2.1)).1
            have hzl : w.heap.size < wr.heap.size := by have h5 := (bel_tr (bel_tr hb1 hb2) HI.out.2.1).size; simp at h5; omega
            have HU3 := Lib.hid hu3
            have HM0 := Lib.hid hm0
            have HN0 := Lib.hid hn0
            have HO0 := Lib.hid ho0
            have hk' : (k : Int) < (l.length : Int) := by omega
            clear hcop hu3 hm0 hn0 ho0 hdl
            by_cases hf : q.frm = f
            · have g3 : (q.frm != f) = false := by simpa using hf
              have HF := Lib.hid hf
              clear hf
              by_cases h4 : (q.items.length : Int) = 4096
              · have g4 : ((q.items.length : Int) == 4096) = true := by simpa using h4
                have HR := Lib.hid (bcastR_full HC0.out HI0.out hget.out (by simp [fullQ, HF.out, h4] : fullQ f q = true))
                clear h4
                go_wp2_with fail
                go_ret2
                rw [HR.out]
                exact ⟨_, rfl, nil_queues _, bel_al HI.out.1.bel _⟩
              · have g4 : ((q.items.length : Int) == 4096) = false := by simpa using h4
                have HFQ : Hid (fullQ f q = false) := Lib.hid (by simp only [fullQ, g4, Bool.and_false])
                clear h4
                go_wp2_with (at_builtin; refine wpList_app _ rfl (.tmp 43) (.tmp 45) 24 rfl w2.heap.size 39 i0 _ 7 72 Try.underlying24 hi0 hz0 hz1 hz2 rfl (by decide) (.slice A3 q.items.length c3) q.items.length cs rfl (ownsRow_below HO0.out (bel_al (bel_al (Below.refl _ _) _) _)) (some ⟨wr.heap.size + 1, 0, none⟩) 1 1 (itemCells x (.slice Ax x.values.length cx)) rfl (src_new' (wr.alloc (.cells #[.int .i64 q.frm, .int .i64 q.to, .slice A3 q.items.length c3] 69)) _ _ 1 7 _ (by simp) rfl (item_means HX.out).2.1) (by unfold maxLen; omega) (by omega) (by have := HI.out.2.1.size; simp; omega) ?_; intro v4 w4 hown4 hg4 hloc; have HO4 := Lib.hid hown4; have HG4 := Lib.hid hg4; have HL4 := Lib.hid hloc; obtain ⟨A4, c4, rfl⟩ := slice_own hown4; have hb4 := hg4.block g (by simp; omega) (Ne.symm HN0.out); have hb5 := ((bel_al (bel_al (Below.refl _ wr) (.cells #[.int .i64 q.frm, .int .i64 q.to, .slice A3 q.items.length c3] 69)) (.cells (itemCells x (.slice Ax x.values.length cx)).toArray 39)).block g hgl); have k2 : w4.cell? ⟨g, k * 3 + 2, none⟩ = some (.slice A3 q.items.length c3) := (World.cell?_of_block (hb4.trans hb5)).trans c2; have kf : w4.frozen? ⟨g, k * 3 + 2, none⟩ = false := blk_frozen ((hb4.trans hb5).trans HI.out.1.blk) _; clear hown4 hg4 hloc hb4 hb5 c0 c1 c2 hz)
                go_roundw
                case rel =>
                  have hfin := (HI.out.1.grow (bel_al (bel_al (Below.refl _ wr) _) _)).upd (doneQ_get hget.out) HU3.out (HM0.out.app (item_means HX.out)) (by rw [List.length_append]; exact HO4.out) HG4.out (fun b' hb' => by
                    rcases HL4.out with h | h
                    · exact .inl (h ▸ hb')
                    · rw [h] at hb'; injection hb' with hb'; exact .inr (Nat.le_of_eq hb'))
                  refine ⟨k + 1, _, by omega, by go_num, by rw [doneQ_take hget.out HF.out]; exact hfin, ?_, ?_⟩
                  · exact bel_set ((bel_al (bel_al HI.out.2.1 _) _).trans (grown_below HG4.out (by have := HI.out.2.1.size; simp; omega) (fun b' hb' => (ownsRow_lt HO0.out hb').1))) HI.out.1.base _
                  · intro p hp
                    rw [take_snoc' hget.out] at hp
                    rcases List.mem_append.1 hp with hp | hp
                    · exact HI.out.2.2 p hp
                    · simp at hp; subst hp; exact HFQ.out
                case measure => simp [intOf]; omega
            · have g3 : (q.frm != f) = true := by simpa using hf
              have HF := Lib.hid hf
              clear hf
              go_wp2_with fail
              go_roundw
              case rel =>
                refine ⟨k + 1, vs, by omega, by go_num, by rw [doneQ_skip hget.out HF.out]; exact HI.out.1.grow (bel_al (Below.refl _ wr) _), bel_al HI.out.2.1 _, ?_⟩
                intro p hp
                rw [take_snoc' hget.out] at hp
                rcases List.mem_append.1 hp with hp | hp
                · exact HI.out.2.2 p hp
                · simp at hp; subst hp; simp [fullQ, HF.out]
              case measure => simp [intOf]; omega
          · obtain rfl : k = l.length := by omega
            have HR := Lib.hid (bcastR_ok (f := f) HC0.out HI0.out (by have h7 := HI.out.2.2; rw [List.take_length] at h7; exact h7))
            go_wp2
            go_ret2
            rw [HR.out]
            have h8 := HI.out.1
            rw [doneQ_end] at h8
            exact ⟨_, rfl, h8.queues, h8.bel⟩
end Go.Proofs.Yteonfoaemljndaa
