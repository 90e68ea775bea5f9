/- Peek, as the program and as the reference do it. -/
import Derived.Test.YteonfoaemljndaaBegin
namespace Go.Proofs.Yteonfoaemljndaa
open Go.RowKit

def zeroItem : Item := ⟨0, 0, 0, 0, 0, [], 0⟩
def headQ (l : List Queue) (i : Nat) : List Item := match l[i]? with
  | some q => q.items
  | none => []
def peekR (l : List Queue) (f t : Int) : Item × Bool × Int :=
  if (foundR l f t).2 = 0 then (match headQ l (foundR l f t).1.toNat with
    | [] => (zeroItem, false, 0)
    | x :: _ => (x, true, 0))
  else (zeroItem, false, (foundR l f t).2)
theorem headQ_eq {l : List Queue} {i : Nat} {q : Queue} (h : l[i]? = some q) : headQ l i = q.items := by unfold headQ; rw [h]
theorem peekR_nil {l : List Queue} {f t : Int} {i : Nat} {q : Queue} (hf : foundR l f t = ((i : Int), 0)) (hq : l[i]? = some q) (hi : q.items = []) : peekR l f t = (zeroItem, false, 0) := by
  unfold peekR; rw [hf]; simp [headQ_eq hq, hi]
theorem peekR_cons {l : List Queue} {f t : Int} {i : Nat} {q : Queue} {x : Item} {xs : List Item} (hf : foundR l f t = ((i : Int), 0)) (hq : l[i]? = some q) (hi : q.items = x :: xs) : peekR l f t = (x, true, 0) := by
  unfold peekR; rw [hf]; simp [headQ_eq hq, hi]
theorem peekR_no {l : List Queue} {f t : Int} (h : (foundR l f t).2 ≠ 0) : peekR l f t = (zeroItem, false, (foundR l f t).2) := by unfold peekR; rw [if_neg h]

def PeekRet (w : World) (r : Item × Bool × Int) (e : Ending) (W : World) : Prop := ∃ u, e = .returned (.tuple #[itemV r.1 u, .bool r.2.1, .int .i64 r.2.2]) ∧ IsVals W u r.1.values ∧ Below w.heap.size w W

theorem bel_one (w : World) (o : Obj) : Below w.heap.size w (w.alloc o) := bel_al (Below.refl _ _) o
theorem cell_via {w w' : World} {o : Obj} (hb : Below (w.alloc o).heap.size (w.alloc o) w') {b p : Nat} {v : Value} (h : w.cell? ⟨b, p, none⟩ = some v) : w'.cell? ⟨b, p, none⟩ = some v := cell_stays hb (cell_stays (bel_one w o) h)
theorem new_cells {w w' : World} {cs : Array Value} {t : TypeId} (hb : Below (w.alloc (.cells cs t)).heap.size (w.alloc (.cells cs t)) w') : (∀ i, w'.cell? ⟨w.heap.size, i, none⟩ = cs[i]?) ∧ (∀ i, w'.frozen? ⟨w.heap.size, i, none⟩ = false) := by
  have h := (hb.block w.heap.size (by simp)).trans (heap_alloc_new w _)
  exact ⟨fun i => by simp [World.cell?, h], fun i => by simp [World.frozen?, h]⟩

set_option maxRecDepth 100000 in
set_option maxHeartbeats 1000000 in
theorem peek_any (l : List Queue) (v : Value) (f t : Int) (w : World) (hl : IsQueues w v l) (hsm : l.length ≤ 1048576) :
    Calls Try.prog 25 #[v, .int .i64 f, .int .i64 t] w (PeekRet w (peekR l f t)) := by
  have HL := Lib.hid hl
  obtain ⟨A, c, rfl, -⟩ := hl
  by_cases hf : (foundR l f t).2 = 0
  · obtain ⟨i, q, hfi, hc0, hfq, hq⟩ := found_ok hf
    have HF := Lib.hid hfi
    have HQ := Lib.hid hq
    have hil := (List.getElem?_eq_some_iff.1 hq).1
    have hil' : (i : Int) < (l.length : Int) := by omega
    clear hf hfi hc0 hfq hq
    obtain ⟨b, o, u, rfl, -, hu, c0, c1, c2⟩ := cell_of_queues HL.out HQ.out
    cases hqi : q.items with
    | nil =>
      have HR := Lib.hid (peekR_nil HF.out HQ.out hqi)
      obtain ⟨Au, cu, rfl, -⟩ := hu
      rw [hqi] at c2
      simp only [List.length_nil] at c2
      clear hqi
      go_enter Try.func25, Try.ntmps25
      go_wp2_with (go_at_call 36; refine (find_at (HL.out.stays queueAt_stays (bel_one _ _)) hsm HF.out).mono ?_; rintro e w1 ⟨rfl, hb1⟩; replace c0 := cell_via hb1 c0; replace c1 := cell_via hb1 c1; replace c2 := cell_via hb1 c2; have hbl := World.block_lt_of_cell? w1 _ c2; simp only at hbl; obtain ⟨hz, hzf⟩ := new_cells hb1)
      rw [HR.out]
      exact bodyPost_ret (v := .tuple #[itemV zeroItem (.slice none 0 0), .bool false, .int .i64 0]) (by simp [results, Try.results25, go_sem, itemV, zeroItem, hz]) rfl ⟨_, rfl, Sl.nil _ _ _ _ _ (Nat.zero_le _), (by (repeat (with_reducible refine bel_set ?_ (Nat.le_refl _) _)); exact bel_tr (bel_one _ _) hb1)⟩
    | cons x xs =>
      have HR := Lib.hid (peekR_cons HF.out HQ.out hqi)
      have hu' := hu
      rw [hqi] at hu'
      obtain ⟨Au, cu, rfl, -, -, hat⟩ := hu'
      obtain ⟨b2, o2, rfl, v2, hv2, d0, d1, d2, d3, d4, d5, d6⟩ := hat 0 x rfl
      simp only [Nat.zero_mul, Nat.add_zero] at d0 d1 d2 d3 d4 d5 d6
      have hn0 : ((((x :: xs).length : Nat) : Int) == 0) = false := by rw [List.length_cons, beq_eq_false_iff_ne]; omega
      have hn1 : (0 : Int) < (((x :: xs).length : Nat) : Int) := by rw [List.length_cons]; omega
      obtain ⟨n, hn⟩ : ∃ n, n = (x :: xs).length := ⟨_, rfl⟩
      rw [← hn] at hn0 hn1 c2
      have HV := Lib.hid hv2
      obtain ⟨A3, c3, rfl, -⟩ := hv2
      clear hat hqi hu hn
      go_enter Try.func25, Try.ntmps25
      go_wp2_with (go_at_call 36; refine (find_at (HL.out.stays queueAt_stays (bel_one _ _)) hsm HF.out).mono ?_; rintro e w1 ⟨rfl, hb1⟩; replace c0 := cell_via hb1 c0; replace c1 := cell_via hb1 c1; replace c2 := cell_via hb1 c2; have hbl := World.block_lt_of_cell? w1 _ c2; simp only at hbl; obtain ⟨hz, hzf⟩ := new_cells hb1; replace d0 := cell_via hb1 d0; replace d1 := cell_via hb1 d1; replace d2 := cell_via hb1 d2; replace d3 := cell_via hb1 d3; replace d4 := cell_via hb1 d4; replace d5 := cell_via hb1 d5; replace d6 := cell_via hb1 d6; have hbl2 := World.block_lt_of_cell? w1 _ d0; simp only at hbl2)
      rw [HR.out]
      exact bodyPost_ret (v := .tuple #[itemV x (.slice A3 x.values.length c3), .bool true, .int .i64 0]) (by simp [results, Try.results25, go_sem, itemV, hz]) rfl ⟨_, rfl, HV.out.stays valAt_stays (by (repeat (with_reducible refine bel_set ?_ (Nat.le_refl _) _)); exact bel_tr (bel_one _ _) hb1), (by (repeat (with_reducible refine bel_set ?_ (Nat.le_refl _) _)); exact bel_tr (bel_one _ _) hb1)⟩
  · obtain ⟨y, hy⟩ : ∃ y, y = (foundR l f t).2 := ⟨_, rfl⟩
    have hfy : foundR l f t = (0, y) := Prod.ext (found_no hf) hy.symm
    have HR := Lib.hid (peekR_no hf)
    have g2 : (y != 0) = true := by rw [hy]; simpa using hf
    have HF := Lib.hid hfy
    have HY := Lib.hid hy
    clear hy hfy hf
    go_enter Try.func25, Try.ntmps25
    go_wp2_with (go_at_call 36; refine (find_at (HL.out.stays queueAt_stays (bel_one _ _)) hsm HF.out).mono ?_; rintro e w1 ⟨rfl, hb1⟩; obtain ⟨hz, hzf⟩ := new_cells hb1)
    rw [HR.out, ← HY.out]
    exact bodyPost_ret (v := .tuple #[itemV zeroItem (.slice none 0 0), .bool false, .int .i64 y]) (by simp [results, Try.results25, go_sem, itemV, zeroItem, hz]) rfl ⟨_, rfl, Sl.nil _ _ _ _ _ (Nat.zero_le _), (by (repeat (with_reducible refine bel_set ?_ (Nat.le_refl _) _)); exact bel_tr (bel_one _ _) hb1)⟩

set_option maxRecDepth 100000 in
set_option maxHeartbeats 1000000 in
theorem rpeek_any (l : List Queue) (v : Value) (f t : Int) (w : World) (hl : IsQueues w v l) (_hsm : l.length ≤ 1048576) :
    Calls Try.prog 26 #[v, .int .i64 f, .int .i64 t] w (PeekRet w (peekR l f t)) := by
  have HL := Lib.hid hl
  obtain ⟨A, c, rfl, -⟩ := hl
  by_cases hf : (foundR l f t).2 = 0
  · obtain ⟨i, q, hfi, hc0, hfq, hq⟩ := found_ok hf
    have HF := Lib.hid hfi
    have HQ := Lib.hid hq
    have hil := (List.getElem?_eq_some_iff.1 hq).1
    have hil' : (i : Int) < (l.length : Int) := by omega
    clear hf hfi hc0 hfq hq
    obtain ⟨b, o, u, rfl, -, hu, c0, c1, c2⟩ := cell_of_queues HL.out HQ.out
    cases hqi : q.items with
    | nil =>
      have HR := Lib.hid (peekR_nil HF.out HQ.out hqi)
      obtain ⟨Au, cu, rfl, -⟩ := hu
      rw [hqi] at c2
      simp only [List.length_nil] at c2
      clear hqi
      go_enter Try.func26, Try.ntmps26
      go_wp2_with (go_at_call 39; refine (found_at (HL.out.stays queueAt_stays (bel_one _ _)) HF.out).mono ?_; rintro e w1 ⟨rfl, hb1⟩; replace c0 := cell_via hb1 c0; replace c1 := cell_via hb1 c1; replace c2 := cell_via hb1 c2; have hbl := World.block_lt_of_cell? w1 _ c2; simp only at hbl; obtain ⟨hz, hzf⟩ := new_cells hb1)
      rw [HR.out]
      exact bodyPost_ret (v := .tuple #[itemV zeroItem (.slice none 0 0), .bool false, .int .i64 0]) (by simp [results, Try.results26, go_sem, itemV, zeroItem, hz]) rfl ⟨_, rfl, Sl.nil _ _ _ _ _ (Nat.zero_le _), (by (repeat (with_reducible refine bel_set ?_ (Nat.le_refl _) _)); exact bel_tr (bel_one _ _) hb1)⟩
    | cons x xs =>
      have HR := Lib.hid (peekR_cons HF.out HQ.out hqi)
      have hu' := hu
      rw [hqi] at hu'
      obtain ⟨Au, cu, rfl, -, -, hat⟩ := hu'
      obtain ⟨b2, o2, rfl, v2, hv2, d0, d1, d2, d3, d4, d5, d6⟩ := hat 0 x rfl
      simp only [Nat.zero_mul, Nat.add_zero] at d0 d1 d2 d3 d4 d5 d6
      have hn0 : ((((x :: xs).length : Nat) : Int) == 0) = false := by rw [List.length_cons, beq_eq_false_iff_ne]; omega
      have hn1 : (0 : Int) < (((x :: xs).length : Nat) : Int) := by rw [List.length_cons]; omega
      obtain ⟨n, hn⟩ : ∃ n, n = (x :: xs).length := ⟨_, rfl⟩
      rw [← hn] at hn0 hn1 c2
      have HV := Lib.hid hv2
      obtain ⟨A3, c3, rfl, -⟩ := hv2
      clear hat hqi hu hn
      go_enter Try.func26, Try.ntmps26
      go_wp2_with (go_at_call 39; refine (found_at (HL.out.stays queueAt_stays (bel_one _ _)) HF.out).mono ?_; rintro e w1 ⟨rfl, hb1⟩; replace c0 := cell_via hb1 c0; replace c1 := cell_via hb1 c1; replace c2 := cell_via hb1 c2; have hbl := World.block_lt_of_cell? w1 _ c2; simp only at hbl; obtain ⟨hz, hzf⟩ := new_cells hb1; replace d0 := cell_via hb1 d0; replace d1 := cell_via hb1 d1; replace d2 := cell_via hb1 d2; replace d3 := cell_via hb1 d3; replace d4 := cell_via hb1 d4; replace d5 := cell_via hb1 d5; replace d6 := cell_via hb1 d6; have hbl2 := World.block_lt_of_cell? w1 _ d0; simp only at hbl2)
      rw [HR.out]
      exact bodyPost_ret (v := .tuple #[itemV x (.slice A3 x.values.length c3), .bool true, .int .i64 0]) (by simp [results, Try.results26, go_sem, itemV, hz]) rfl ⟨_, rfl, HV.out.stays valAt_stays (by (repeat (with_reducible refine bel_set ?_ (Nat.le_refl _) _)); exact bel_tr (bel_one _ _) hb1), (by (repeat (with_reducible refine bel_set ?_ (Nat.le_refl _) _)); exact bel_tr (bel_one _ _) hb1)⟩
  · obtain ⟨y, hy⟩ : ∃ y, y = (foundR l f t).2 := ⟨_, rfl⟩
    have hfy : foundR l f t = (0, y) := Prod.ext (found_no hf) hy.symm
    have HR := Lib.hid (peekR_no hf)
    have g2 : (y != 0) = true := by rw [hy]; simpa using hf
    have HF := Lib.hid hfy
    have HY := Lib.hid hy
    clear hy hfy hf
    go_enter Try.func26, Try.ntmps26
    go_wp2_with (go_at_call 39; refine (found_at (HL.out.stays queueAt_stays (bel_one _ _)) HF.out).mono ?_; rintro e w1 ⟨rfl, hb1⟩; obtain ⟨hz, hzf⟩ := new_cells hb1)
    rw [HR.out, ← HY.out]
    exact bodyPost_ret (v := .tuple #[itemV zeroItem (.slice none 0 0), .bool false, .int .i64 y]) (by simp [results, Try.results26, go_sem, itemV, zeroItem, hz]) rfl ⟨_, rfl, Sl.nil _ _ _ _ _ (Nat.zero_le _), (by (repeat (with_reducible refine bel_set ?_ (Nat.le_refl _) _)); exact bel_tr (bel_one _ _) hb1)⟩
end Go.Proofs.Yteonfoaemljndaa
