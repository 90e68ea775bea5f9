/- The examples of the chapter hold. -/
import Derived.Test.YteonfoaemljndaaMk
import Derived.Test.YteonfoaemljndaaSames
namespace Go.Proofs.Yteonfoaemljndaa
open Go.RowKit

def L0 : List Queue := [⟨0, 0, []⟩, ⟨0, 1, []⟩]
def L1 : List Queue := [⟨0, 0, [markI 5]⟩, ⟨0, 1, [markI 5]⟩]
def L2 : List Queue := [⟨0, 0, [markI 5]⟩, ⟨0, 1, [markI 5, eventI 7]⟩]
def L3 : List Queue := [⟨0, 0, [markI 5]⟩, ⟨0, 1, [eventI 7]⟩]
def L4 : List Queue := [⟨0, 0, [markI 5]⟩, ⟨0, 1, []⟩]
def L5 : List Queue := [⟨0, 0, [eventI 1, barrierI 3, markI 4]⟩, ⟨0, 1, []⟩]
theorem aw0 : beginR 1 2 = (L0, 0) := by rfl
theorem aw1 : bcastR L0 0 (markI 5) = (L1, 0) := by rfl
theorem aw2 : sendR L1 0 1 [eventI 7] = (L2, 0) := by rfl
theorem aw3 : receiveR L2 0 1 = (L3, markI 5, 0) := by rfl
theorem aw4 : receiveR L3 0 1 = (L4, eventI 7, 0) := by rfl
theorem aw5 : peekR L3 0 0 = (markI 5, true, 0) := by rfl
theorem aw6 : sendR L0 0 0 [eventI 1, barrierI 3, markI 4] = (L5, 0) := by rfl
theorem aw7 : beforeR L5 0 0 = ([eventI 1], 3, 0) := by rfl
theorem aw8 : readyR L5 0 = ([0], 0) := by rfl

theorem mark_agg (n : Int) (w : World) : Calls Try.prog 34 #[.int .i64 n] w fun e w' => e = .returned (.agg #[.int .i64 1, .int .i64 0, .int .i64 0, .int .i64 0, .int .i64 0, .slice none 0 0, .int .i64 n]) ∧ Below w.heap.size w w' := mark_any n w
theorem event_agg (n : Int) (w : World) : Calls Try.prog 35 #[.int .i64 n] w fun e w' => e = .returned (.agg #[.int .i64 0, .int .i64 0, .int .i64 n, .int .i64 0, .int .i64 0, .slice none 0 0, .int .i64 0]) ∧ Below w.heap.size w w' := event_any n w
theorem same_mark (n : Int) (A : Option Addr) (c : Nat) (hc : c ≤ maxLen) (w : World) : Calls Try.prog 27 #[.agg #[.int .i64 1, .int .i64 0, .int .i64 0, .int .i64 0, .int .i64 0, .slice A 0 c, .int .i64 n], .agg #[.int .i64 1, .int .i64 0, .int .i64 0, .int .i64 0, .int .i64 0, .slice none 0 0, .int .i64 n]] w fun e w' => e = .returned (.bool true) ∧ Below w.heap.size w w' :=
  sameItem_eq (markI n) (.slice A 0 c) (.slice none 0 0) w (Sl.nil _ _ _ _ _ hc) (Sl.nil _ _ _ _ _ (Nat.zero_le _))
theorem same_event (n : Int) (A : Option Addr) (c : Nat) (hc : c ≤ maxLen) (w : World) : Calls Try.prog 27 #[.agg #[.int .i64 0, .int .i64 0, .int .i64 n, .int .i64 0, .int .i64 0, .slice A 0 c, .int .i64 0], .agg #[.int .i64 0, .int .i64 0, .int .i64 n, .int .i64 0, .int .i64 0, .slice none 0 0, .int .i64 0]] w fun e w' => e = .returned (.bool true) ∧ Below w.heap.size w w' :=
  sameItem_eq (eventI n) (.slice A 0 c) (.slice none 0 0) w (Sl.nil _ _ _ _ _ hc) (Sl.nil _ _ _ _ _ (Nat.zero_le _))
theorem small (l : List Queue) (h : ∀ q ∈ l, q.items.length ≤ 1000) : ∀ q ∈ l, q.items.length ≤ 1048576 := fun q hq => by have := h q hq; omega

set_option maxRecDepth 100000 in
set_option maxHeartbeats 4000000 in
theorem awake_any (w : World) : Calls Try.prog 13 #[] w fun e w' => e = .returned (.bool true) ∧ Below w.heap.size w w' := by
  go_enter Try.func13, Try.ntmps13
  go_wp2_with fail
  refine (aw0 ▸ begin_any 1 2 w).mono ?_
  rintro e w1 ⟨v1, rfl, hq1, hb1⟩
  simp only at hq1
  obtain ⟨A1, c1, rfl, -⟩ := id hq1
  obtain ⟨b1, o1, u1, rfl, -, -, -, k1, -⟩ := cell_of_queues hq1 (i := 1) rfl
  have HQ1 := Lib.hid hq1
  clear hq1
  simp only [L0, List.length_cons, List.length_nil, Nat.zero_add, Nat.reduceAdd]
  go_wp2_with fail
  refine (mark_agg 5 _).mono ?_
  rintro e w2 ⟨rfl, hb2⟩
  go_wp2_with fail
  have h3 := broadcast_any L0 (.slice (some ⟨b1, o1, none⟩) 2 c1) 0 (markI 5) (.slice none 0 0) w2 (HQ1.out.stays queueAt_stays hb2) (Sl.nil _ _ _ _ _ (Nat.zero_le _)) (by decide) (by simp [L0])
  rw [aw1] at h3
  refine (show Calls Try.prog 17 #[.slice (some ⟨b1, o1, none⟩) 2 c1, .int .i64 0, .agg #[.int .i64 1, .int .i64 0, .int .i64 0, .int .i64 0, .int .i64 0, .slice none 0 0, .int .i64 5]] w2 _ from h3).mono ?_
  clear h3
  rintro e w3 ⟨v3, rfl, hq3, hb3⟩
  simp only at hq3
  obtain ⟨A3, c3, rfl, -⟩ := id hq3
  have HQ3 := Lib.hid hq3
  clear hq3
  simp only [L1, List.length_cons, List.length_nil, Nat.zero_add, Nat.reduceAdd]
  go_wp2_with fail
  refine (event_agg 7 _).mono ?_
  rintro e w4 ⟨rfl, hb4⟩
  go_wp2_with fail
  have hE : Means ItemAt 7 w4 (itemCells (eventI 7) (.slice none 0 0)) [eventI 7] := item_means (Sl.nil _ _ _ _ _ (Nat.zero_le _))
  have h5 := send_any L1 (.slice A3 2 c3) 0 1 [eventI 7] (.slice (some ⟨w4.heap.size, 0, none⟩) 1 1) (w4.alloc (.cells (itemCells (eventI 7) (.slice none 0 0)).toArray 39)) (HQ3.out.stays queueAt_stays (bel_al hb4 _)) (sl_of_means (e := 39) (base := 0) hE (bel_one _ _) ⟨rfl, .inr ⟨w4.heap.size, 1, _, rfl, Nat.zero_le _, heap_alloc_new w4 _, Nat.le_refl _, by simp [maxLen], rfl, rfl⟩⟩) (by decide) (by simp [L1]) (by decide)
  rw [aw2] at h5
  clear hE
  refine h5.mono ?_
  clear h5
  rintro e w5 ⟨v5, rfl, hq5, hb5⟩
  simp only at hq5
  obtain ⟨A5, c5, rfl, -⟩ := id hq5
  have HQ5 := Lib.hid hq5
  clear hq5
  simp only [L2, List.length_cons, List.length_nil, Nat.zero_add, Nat.reduceAdd]
  simp only [Nat.one_mul, Nat.reduceAdd, Nat.add_assoc] at k1
  have k5 := cell_stays (bel_tr (bel_al (bel_tr (bel_tr hb2 hb3) hb4) _) hb5) k1
  go_wp2_with fail
  have h6 := receive_any L2 (.slice A5 2 c5) 0 1 w5 HQ5.out (by decide) (by simp [L2])
  rw [aw3] at h6
  refine h6.mono ?_
  clear h6
  rintro e w6 ⟨v6, u6, rfl, hq6, hu6, hb6⟩
  simp only at hq6 hu6
  obtain ⟨A6, c6, rfl, -⟩ := id hq6
  obtain ⟨A6u, c6u, rfl, -, m6, -⟩ := hu6
  have HQ6 := Lib.hid hq6
  clear hq6
  simp only [L3, itemV, markI, List.length_cons, List.length_nil, Nat.zero_add, Nat.reduceAdd]
  go_wp2_with fail
  have h7 := receive_any L3 (.slice A6 2 c6) 0 1 _ (HQ6.out.stays queueAt_stays (bel_one w6 (.cells #[.int .i64 1, .int .i64 0, .int .i64 0, .int .i64 0, .int .i64 0, .slice A6u 0 c6u, .int .i64 5] 39))) (by decide) (by simp [L3])
  rw [aw4] at h7
  refine h7.mono ?_
  clear h7
  rintro e w7 ⟨v7, u7, rfl, hq7, hu7, hb7⟩
  simp only at hq7 hu7
  obtain ⟨A7, c7, rfl, -⟩ := id hq7
  obtain ⟨A7u, c7u, rfl, -, m7, -⟩ := hu7
  clear hq7
  simp only [L4, itemV, eventI, List.length_cons, List.length_nil, Nat.zero_add, Nat.reduceAdd]
  go_wp2_with fail
  have h8 := peek_any L3 (.slice A6 2 c6) 0 0 _ (HQ6.out.stays queueAt_stays (bel_al (bel_tr (bel_one w6 (.cells #[.int .i64 1, .int .i64 0, .int .i64 0, .int .i64 0, .int .i64 0, .slice A6u 0 c6u, .int .i64 5] 39)) hb7) (.cells #[.int .i64 0, .int .i64 0, .int .i64 7, .int .i64 0, .int .i64 0, .slice A7u 0 c7u, .int .i64 0] 39))) (by decide)
  rw [aw5] at h8
  refine h8.mono ?_
  clear h8
  rintro e w8 ⟨u8, rfl, hu8, hb8⟩
  simp only at hu8
  obtain ⟨A8u, c8u, rfl, -, m8, -⟩ := hu8
  have p0 : w8.cell? ⟨w6.heap.size, 0, none⟩ = some (.int .i64 1) := cell_via hb8 (by exact (new_cells hb7).1 0)
  have q0 : w8.cell? ⟨w7.heap.size, 0, none⟩ = some (.int .i64 0) := (by exact (new_cells hb8).1 0)
  have p1 : w8.cell? ⟨w6.heap.size, 1, none⟩ = some (.int .i64 0) := cell_via hb8 (by exact (new_cells hb7).1 1)
  have q1 : w8.cell? ⟨w7.heap.size, 1, none⟩ = some (.int .i64 0) := (by exact (new_cells hb8).1 1)
  have p2 : w8.cell? ⟨w6.heap.size, 2, none⟩ = some (.int .i64 0) := cell_via hb8 (by exact (new_cells hb7).1 2)
  have q2 : w8.cell? ⟨w7.heap.size, 2, none⟩ = some (.int .i64 7) := (by exact (new_cells hb8).1 2)
  have p3 : w8.cell? ⟨w6.heap.size, 3, none⟩ = some (.int .i64 0) := cell_via hb8 (by exact (new_cells hb7).1 3)
  have q3 : w8.cell? ⟨w7.heap.size, 3, none⟩ = some (.int .i64 0) := (by exact (new_cells hb8).1 3)
  have p4 : w8.cell? ⟨w6.heap.size, 4, none⟩ = some (.int .i64 0) := cell_via hb8 (by exact (new_cells hb7).1 4)
  have q4 : w8.cell? ⟨w7.heap.size, 4, none⟩ = some (.int .i64 0) := (by exact (new_cells hb8).1 4)
  have p5 : w8.cell? ⟨w6.heap.size, 5, none⟩ = some (.slice A6u 0 c6u) := cell_via hb8 (by exact (new_cells hb7).1 5)
  have q5 : w8.cell? ⟨w7.heap.size, 5, none⟩ = some (.slice A7u 0 c7u) := (by exact (new_cells hb8).1 5)
  have p6 : w8.cell? ⟨w6.heap.size, 6, none⟩ = some (.int .i64 5) := cell_via hb8 (by exact (new_cells hb7).1 6)
  have q6 : w8.cell? ⟨w7.heap.size, 6, none⟩ = some (.int .i64 0) := (by exact (new_cells hb8).1 6)
  have l6 := World.block_lt_of_cell? w8 _ p0
  have l7 := World.block_lt_of_cell? w8 _ q0
  simp only at l6 l7
  simp only [itemV, markI, List.length_nil]
  go_wp2_with fail
  refine wp_region_F (fun W => W.cell? ⟨w6.heap.size, 0, none⟩ = some (.int .i64 1) ∧ W.cell? ⟨w6.heap.size, 1, none⟩ = some (.int .i64 0) ∧ W.cell? ⟨w6.heap.size, 2, none⟩ = some (.int .i64 0) ∧ W.cell? ⟨w6.heap.size, 3, none⟩ = some (.int .i64 0) ∧ W.cell? ⟨w6.heap.size, 4, none⟩ = some (.int .i64 0) ∧ W.cell? ⟨w6.heap.size, 5, none⟩ = some (.slice A6u 0 c6u) ∧ W.cell? ⟨w6.heap.size, 6, none⟩ = some (.int .i64 5) ∧ W.cell? ⟨w7.heap.size, 0, none⟩ = some (.int .i64 0) ∧ W.cell? ⟨w7.heap.size, 1, none⟩ = some (.int .i64 0) ∧ W.cell? ⟨w7.heap.size, 2, none⟩ = some (.int .i64 7) ∧ W.cell? ⟨w7.heap.size, 3, none⟩ = some (.int .i64 0) ∧ W.cell? ⟨w7.heap.size, 4, none⟩ = some (.int .i64 0) ∧ W.cell? ⟨w7.heap.size, 5, none⟩ = some (.slice A7u 0 c7u) ∧ W.cell? ⟨w7.heap.size, 6, none⟩ = some (.int .i64 0) ∧ W.cell? ⟨w8.heap.size, 0, none⟩ = some (.int .i64 1) ∧ W.cell? ⟨w8.heap.size, 1, none⟩ = some (.int .i64 0) ∧ W.cell? ⟨w8.heap.size, 2, none⟩ = some (.int .i64 0) ∧ W.cell? ⟨w8.heap.size, 3, none⟩ = some (.int .i64 0) ∧ W.cell? ⟨w8.heap.size, 4, none⟩ = some (.int .i64 0) ∧ W.cell? ⟨w8.heap.size, 5, none⟩ = some (.slice A8u 0 c8u) ∧ W.cell? ⟨w8.heap.size, 6, none⟩ = some (.int .i64 5)) (by repeat (first | exact grows_cell _ _ _ | exact grows_true | refine grows_and ?_ ?_)) (by kernel_rfl) (by kernel_rfl) ?hF ?_; (case hF => (first | exact ⟨‹_›, ‹_›⟩ | (go_simp; done) | (simp [*]; done))); intro hne hxx; have hG : Hid (Grows (fun W => W.cell? ⟨w6.heap.size, 0, none⟩ = some (.int .i64 1) ∧ W.cell? ⟨w6.heap.size, 1, none⟩ = some (.int .i64 0) ∧ W.cell? ⟨w6.heap.size, 2, none⟩ = some (.int .i64 0) ∧ W.cell? ⟨w6.heap.size, 3, none⟩ = some (.int .i64 0) ∧ W.cell? ⟨w6.heap.size, 4, none⟩ = some (.int .i64 0) ∧ W.cell? ⟨w6.heap.size, 5, none⟩ = some (.slice A6u 0 c6u) ∧ W.cell? ⟨w6.heap.size, 6, none⟩ = some (.int .i64 5) ∧ W.cell? ⟨w7.heap.size, 0, none⟩ = some (.int .i64 0) ∧ W.cell? ⟨w7.heap.size, 1, none⟩ = some (.int .i64 0) ∧ W.cell? ⟨w7.heap.size, 2, none⟩ = some (.int .i64 7) ∧ W.cell? ⟨w7.heap.size, 3, none⟩ = some (.int .i64 0) ∧ W.cell? ⟨w7.heap.size, 4, none⟩ = some (.int .i64 0) ∧ W.cell? ⟨w7.heap.size, 5, none⟩ = some (.slice A7u 0 c7u) ∧ W.cell? ⟨w7.heap.size, 6, none⟩ = some (.int .i64 0) ∧ W.cell? ⟨w8.heap.size, 0, none⟩ = some (.int .i64 1) ∧ W.cell? ⟨w8.heap.size, 1, none⟩ = some (.int .i64 0) ∧ W.cell? ⟨w8.heap.size, 2, none⟩ = some (.int .i64 0) ∧ W.cell? ⟨w8.heap.size, 3, none⟩ = some (.int .i64 0) ∧ W.cell? ⟨w8.heap.size, 4, none⟩ = some (.int .i64 0) ∧ W.cell? ⟨w8.heap.size, 5, none⟩ = some (.slice A8u 0 c8u) ∧ W.cell? ⟨w8.heap.size, 6, none⟩ = some (.int .i64 5))) := (by repeat (first | exact grows_cell _ _ _ | exact grows_true | refine grows_and ?_ ?_)); (repeat (go_big_quiet_step ((first | (go_at_call 34; exact cls_call hG (mark_agg 5 _)) | (go_at_call 35; exact cls_call hG (event_agg 7 _)) | (go_at_call 27; (with_reducible refine cls_call hG.out (same_mark 5 _ _ ?_ _)); first | exact m6 | exact m8) | (go_at_call 27; (with_reducible refine cls_call hG.out (same_event 7 _ _ ?_ _)); exact m7))))); clear hG hxx hne; refine wpQuiet_nil ?_; rintro _ ⟨⟨w', hb', hF'⟩, rfl⟩
  clear hF' l6 l7 p0 p1 p2 p3 p4 p5 p6 q0 q1 q2 q3 q4 q5 q6
  have b19 := Lib.hid (bel_tr (bel_al (bel_tr (bel_al (bel_tr (bel_al (bel_tr (bel_tr (bel_al (bel_tr (bel_tr hb2 hb3) hb4) _) hb5) hb6) _) hb7) _) hb8) _) hb')
  clear hb2 hb3 hb4 hb5 hb6 hb7 hb8 hb' k1 k5
  go_wp2_with fail
  refine (event_agg 1 _).mono ?_
  rintro e w10 ⟨rfl, hb10⟩
  go_wp2_with fail
  refine (mark_agg 4 _).mono ?_
  rintro e w11 ⟨rfl, hb11⟩
  go_wp2_with fail
  have hE : Means ItemAt 7 w11 ((itemCells (eventI 1) (.slice none 0 0)) ++ (itemCells (barrierI 3) (.slice none 0 0)) ++ (itemCells (markI 4) (.slice none 0 0))) ([eventI 1] ++ [barrierI 3] ++ [markI 4]) := ((item_means (Sl.nil _ _ _ _ _ (Nat.zero_le _))).app (item_means (Sl.nil _ _ _ _ _ (Nat.zero_le _)))).app (item_means (Sl.nil _ _ _ _ _ (Nat.zero_le _)))
  have h12 := send_any L0 (.slice (some ⟨b1, o1, none⟩) 2 c1) 0 0 [eventI 1, barrierI 3, markI 4] (.slice (some ⟨w11.heap.size, 0, none⟩) 3 3) (w11.alloc (.cells ((itemCells (eventI 1) (.slice none 0 0)) ++ (itemCells (barrierI 3) (.slice none 0 0)) ++ (itemCells (markI 4) (.slice none 0 0))).toArray 39)) (HQ1.out.stays queueAt_stays (bel_al (bel_tr (bel_tr b19.out hb10) hb11) _)) (sl_of_means (e := 39) (base := 0) hE (bel_one _ _) ⟨rfl, .inr ⟨w11.heap.size, 3, _, rfl, Nat.zero_le _, heap_alloc_new w11 _, Nat.le_refl _, by simp [maxLen], rfl, rfl⟩⟩) (by decide) (by simp [L0]) (by decide)
  rw [aw6] at h12
  clear hE
  refine h12.mono ?_
  clear h12
  rintro e w12 ⟨v12, rfl, hq12, hb12⟩
  simp only at hq12
  obtain ⟨A12, c12, rfl, -⟩ := id hq12
  have HQ12 := Lib.hid hq12
  clear hq12
  simp only [L5, List.length_cons, List.length_nil, Nat.zero_add, Nat.reduceAdd]
  have b12 := Lib.hid (bel_tr (bel_al (bel_tr (bel_tr b19.out hb10) hb11) _) hb12)
  clear hb10 hb11 hb12 b19
  go_wp2_with fail
  have h13 := before_any L5 (.slice A12 2 c12) 0 0 w12 HQ12.out (by decide) (by simp [L5])
  rw [aw7] at h13
  refine h13.mono ?_
  clear h13
  rintro e w13 ⟨v13, rfl, hq13, hb13⟩
  simp only at hq13
  obtain ⟨A13, c13, rfl, -⟩ := id hq13
  have HQ13 := Lib.hid hq13
  clear hq13
  simp only [List.length_cons, List.length_nil, Nat.zero_add]
  go_wp2_with fail
  have h14 := ready_any L5 (.slice A12 2 c12) 0 w13 (HQ12.out.stays queueAt_stays hb13) (by decide)
  rw [aw8] at h14
  refine h14.mono ?_
  clear h14
  rintro e w14 ⟨v14, rfl, hq14, hb14⟩
  simp only at hq14
  obtain ⟨A14, c14, rfl, -, -, hat⟩ := hq14
  obtain ⟨b14, o14, rfl, hi14⟩ := hat 0 0 rfl
  simp only [IntAt, Nat.mul_one, Nat.add_zero] at hi14
  clear hat
  simp only [List.length_cons, List.length_nil, Nat.zero_add]
  have b14' := Lib.hid (bel_tr (bel_tr b12.out hb13) hb14)
  have HI14 := Lib.hid (HQ13.out.stays itemAt_stays hb14)
  clear hb13 hb14 b12
  go_wp2_with fail
  refine (event_agg 1 _).mono ?_
  rintro e w15 ⟨rfl, hb15⟩
  replace hi14 := cell_stays hb15 hi14
  go_wp2_with fail
  have hE : Means ItemAt 7 w15 (itemCells (eventI 1) (.slice none 0 0)) [eventI 1] := item_means (Sl.nil _ _ _ _ _ (Nat.zero_le _))
  have h16 := sameItems_eq [eventI 1] (.slice A13 1 c13) (.slice (some ⟨w15.heap.size, 0, none⟩) 1 1) (w15.alloc (.cells (itemCells (eventI 1) (.slice none 0 0)).toArray 39)) (HI14.out.stays itemAt_stays (bel_al hb15 _)) (sl_of_means (e := 39) (base := 0) hE (bel_one _ _) ⟨rfl, .inr ⟨w15.heap.size, 1, _, rfl, Nat.zero_le _, heap_alloc_new w15 _, Nat.le_refl _, by simp [maxLen], rfl, rfl⟩⟩)
  clear hE
  refine h16.mono ?_
  clear h16
  rintro e w16 ⟨rfl, hb16⟩
  replace hi14 := cell_via hb16 hi14
  go_wp2_with fail
  go_ret
  exact ⟨rfl, bel_tr hb1 (bel_tr (bel_al (bel_tr b14'.out hb15) _) hb16)⟩
end Go.Proofs.Yteonfoaemljndaa
