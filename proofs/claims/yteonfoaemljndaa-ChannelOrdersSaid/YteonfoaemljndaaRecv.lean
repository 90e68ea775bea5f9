/- Receive, as the program does it. -/
import Derived.Test.YteonfoaemljndaaPeek
namespace Go.Proofs.Yteonfoaemljndaa
open Go.RowKit

def receiveR (l : List Queue) (f t : Int) : List Queue × Item × Int :=
  if (foundR l f t).2 = 0 then (match headQ l (foundR l f t).1.toNat with
    | [] => ([], zeroItem, 20)
    | x :: xs => (setItems l (foundR l f t).1.toNat xs, x, 0))
  else ([], zeroItem, (foundR l f t).2)
theorem receiveR_nil {l : List Queue} {f t : Int} {i : Nat} {q : Queue} (hf : foundR l f t = ((i : Int), 0)) (hq : l[i]? = some q) (hi : q.items = []) : receiveR l f t = ([], zeroItem, 20) := by
  unfold receiveR; rw [hf]; simp [headQ_eq hq, hi]
theorem receiveR_cons {l : List Queue} {f t : Int} {i : Nat} {q : Queue} {x : Item} {xs : List Item} (hf : foundR l f t = ((i : Int), 0)) (hq : l[i]? = some q) (hi : q.items = x :: xs) : receiveR l f t = (setItems l i xs, x, 0) := by
  unfold receiveR; rw [hf]; simp [headQ_eq hq, hi]
theorem receiveR_no {l : List Queue} {f t : Int} (h : (foundR l f t).2 ≠ 0) : receiveR l f t = ([], zeroItem, (foundR l f t).2) := by unfold receiveR; rw [if_neg h]

def RecvRet (w : World) (r : List Queue × Item × Int) (e : Ending) (W : World) : Prop :=
  ∃ v u, e = .returned (.tuple #[v, itemV r.2.1 u, .int .i64 r.2.2]) ∧ IsQueues W v r.1 ∧ IsVals W u r.2.1.values ∧ Below w.heap.size w W

theorem Copied.recv {w W W' : World} {B : Nat} {v v2 : Value} {l : List Queue} {vs : List Value} {g cap i : Nat} {spare : List Value} {xs : List Item} (h : Copied w B W v l vs g cap spare) (hil : i < l.length)
    (hk : ∀ b, B ≤ b → b < W.heap.size → b ≠ g → W'.heap[b]? = W.heap[b]?) (hg : W'.heap[g]? = some (.cells ((qcells l vs ++ spare).set (i * 3 + 2) v2).toArray 69 (0, 0)))
    (hb : Below w.heap.size w W') (h2 : IsItems W' v2 xs) : IsQueues W' v (setItems l i xs) := by
  have hlen := qcells_length l vs h.len
  rw [List.set_append_left _ _ (by omega), qcells_set l vs i v2 h.len hil, ← qcells_setItems l _ i xs] at hg
  have := queues_of_blk (cap := cap) hg (by rw [List.length_set, setItems_length, h.len]) (fun j u q hu hq => ?_) (by rw [setItems_length]; exact h.le) h.capm
  · rw [setItems_length] at this
    rw [h.val]; exact this
  · by_cases hji : i = j
    · subst hji
      rw [setItems_get (List.getElem?_eq_getElem hil)] at hq
      injection hq with hq
      subst hq
      rw [List.getElem?_set_self (by rw [h.len]; exact hil)] at hu
      injection hu with hu
      subst hu
      exact h2
    · rw [setItems_ne hji] at hq
      rw [List.getElem?_set_ne hji] at hu
      obtain ⟨cs, hm, ho, hn⟩ := h.own.row j u q hu hq
      exact sl_of_means hm hb (ownsRow_kept ho (fun b hbb => hk b (ownsRow_lt ho hbb).1 (ownsRow_lt ho hbb).2 (fun e => hn (by rw [hbb, e]))))

theorem wp_gen {P : Program} {c : Code} {Q : Exit → Act → World → Prop} {a : Act} {w : World} (h : ∀ W : World, W = w → c.wp P Q a W) : c.wp P Q a w := h w rfl

/-- a row without its first element -/
theorem tail_items {W : World} {A2 : Option Addr} {gi ci n : Nat} {x : Item} {xs : List Item} (h : IsItems W (.slice (some ⟨gi, 0, none⟩) n ci) (x :: xs)) (hA : ci = 1 ∨ A2 = some ⟨gi, 7, none⟩) : IsItems W (.slice A2 (n - 1) (ci - 1)) xs := by
  obtain ⟨A, c, hv, h1, h2, h3⟩ := h
  injection hv with e1 e2 e3
  subst e1 e2 e3
  simp only [List.length_cons] at h1
  refine ⟨A2, ci - 1, by simp, by omega, by omega, fun k y hk => ?_⟩
  obtain ⟨b, o, hbo, hx⟩ := h3 (k + 1) y (by simpa using hk)
  injection hbo with hbo
  injection hbo with e1 e2
  subst e1 e2
  have hkl := (List.getElem?_eq_some_iff.1 hk).1
  rcases hA with hA | hA
  · omega
  · refine ⟨gi, 7, hA, ?_⟩
    rwa [show 0 + (k + 1) * 7 = 7 + k * 7 by omega] at hx

theorem recv_end {w w2 W W9 : World} {B g cap i gi ci : Nat} {l : List Queue} {vs spare cs : List Value} {q : Queue} {x : Item} {xs : List Item} {A2 A3 : Option Addr} {c3 : Nat}
    (hc : Copied w B w2 (.slice (some ⟨g, 0, none⟩) l.length cap) l vs g cap spare) (hil : i < l.length) (hqi : q.items = x :: xs) (hr : w.heap.size < B)
    (hm : Means ItemAt 7 w cs q.items) (ho : w2.ownsRow B 39 7 (.slice (some ⟨gi, 0, none⟩) q.items.length ci) q.items.length cs) (hgig : gi ≠ g) (d5 : w2.cell? ⟨gi, 5, none⟩ = some (.slice A3 x.values.length c3))
    (hWk : ∀ b, b < w2.heap.size → b ≠ g → W.heap[b]? = w2.heap[b]?) (hWg : W.heap[g]? = some (.cells ((qcells l vs ++ spare).set (i * 3 + 2) (.slice A2 (q.items.length - 1) (ci - 1))).toArray 69 (0, 0)))
    (h9 : ∀ b, b ≠ w.heap.size → W9.heap[b]? = W.heap[b]?) (h9b : Below w.heap.size w W9) (hA : ci = 1 ∨ A2 = some ⟨gi, 7, none⟩) :
    RecvRet w (setItems l i xs, x, 0) (.returned (.tuple #[.slice (some ⟨g, 0, none⟩) l.length cap, itemV x (.slice A3 x.values.length c3), .int .i64 0])) W9 := by
  have hgb := hc.base
  have hgi := ownsRow_lt ho (g := gi) rfl
  have hk9 : ∀ b, B ≤ b → b < w2.heap.size → b ≠ g → W9.heap[b]? = w2.heap[b]? := fun b h1 h2 h3 => (h9 b (by omega)).trans (hWk b h2 h3)
  have ho9 := ownsRow_kept (w' := W9) ho (fun b hb => by
    have : gi = b := by simpa [Value.ownBlock] using hb
    subst this
    exact hk9 gi hgi.1 hgi.2 hgig)
  have hit9 : IsItems W9 (.slice (some ⟨gi, 0, none⟩) q.items.length ci) q.items := sl_of_means hm h9b ho9
  have hit9' := hit9
  rw [hqi] at hit9'
  obtain ⟨A, c, hv, _, _, hat⟩ := hit9'
  injection hv with e1 e2 e3
  subst e1 e3
  obtain ⟨b, o, hbo, v', hv', _, _, _, _, _, f5, _⟩ := hat 0 x rfl
  injection hbo with hbo
  injection hbo with e4 e5
  subst e4 e5
  have hc5 : W9.cell? ⟨gi, 5, none⟩ = w2.cell? ⟨gi, 5, none⟩ := World.cell?_of_block (hk9 gi hgi.1 hgi.2 hgig)
  simp only [Nat.zero_mul, Nat.add_zero, Nat.zero_add] at f5
  rw [hc5, d5] at f5
  injection f5 with f5
  subst f5
  refine ⟨_, _, rfl, hc.recv hil hk9 ((h9 g (by omega)).trans hWg) h9b (tail_items (gi := gi) (x := x) ?_ hA), hv', h9b⟩
  rw [hqi] at hit9 ⊢
  exact hit9

set_option maxRecDepth 100000 in
set_option maxHeartbeats 1000000 in
theorem receive_any (l : List Queue) (v : Value) (f t : Int) (w : World) (hl : IsQueues w v l) (hsm : l.length ≤ 1048576) (hit : ∀ q ∈ l, q.items.length ≤ 1048576) :
    Calls Try.prog 23 #[v, .int .i64 f, .int .i64 t] w (RecvRet w (receiveR l f t)) := by
  have HL := Lib.hid hl
  have HIT := Lib.hid hit
  clear hit
  obtain ⟨A, c, rfl, -⟩ := hl
  by_cases hf : (foundR l f t).2 = 0
  · obtain ⟨i, q, hfi, hc0, hfq, hq⟩ := found_ok hf
    have HF := Lib.hid hfi
    have HQ := Lib.hid hq
    have hil := (List.getElem?_eq_some_iff.1 hq).1
    have hil' : (i : Int) < (l.length : Int) := by omega
    clear hf hfi hc0 hfq hq
    obtain ⟨b, o, u, rfl, -, hu, c0, c1, c2⟩ := cell_of_queues HL.out HQ.out
    cases hqi : q.items with
    | nil =>
      have HR := Lib.hid (receiveR_nil HF.out HQ.out hqi)
      obtain ⟨Au, cu, rfl, -⟩ := hu
      rw [hqi] at c2
      simp only [List.length_nil] at c2
      clear hqi
      go_enter Try.func23, Try.ntmps23
      go_wp2_with (go_at_call 36; refine (find_at (HL.out.stays queueAt_stays (bel_one _ _)) hsm HF.out).mono ?_; rintro e w1 ⟨rfl, hb1⟩; replace c0 := cell_via hb1 c0; replace c1 := cell_via hb1 c1; replace c2 := cell_via hb1 c2; have hbl := World.block_lt_of_cell? w1 _ c2; simp only at hbl; obtain ⟨hz, hzf⟩ := new_cells hb1)
      rw [HR.out]
      exact bodyPost_ret (v := .tuple #[.slice none 0 0, itemV zeroItem (.slice none 0 0), .int .i64 20]) (by simp [results, Try.results23, go_sem, itemV, zeroItem, hz]) rfl ⟨_, _, rfl, nil_queues _, Sl.nil _ _ _ _ _ (Nat.zero_le _), (by (repeat (with_reducible refine bel_set ?_ (Nat.le_refl _) _)); exact bel_tr (bel_one _ _) hb1)⟩
    | cons x xs =>
      have HR := Lib.hid (receiveR_cons HF.out HQ.out hqi)
      obtain ⟨Au, cu, rfl, -, -, -⟩ := hu
      have hn0 : (((q.items.length : Nat) : Int) == 0) = false := by rw [hqi, List.length_cons, beq_eq_false_iff_ne]; omega
      have HQI := Lib.hid hqi
      clear hqi
      go_enter Try.func23, Try.ntmps23
      go_wp2_with (go_at_call 36; refine (find_at (HL.out.stays queueAt_stays (bel_one _ _)) hsm HF.out).mono ?_; rintro e w1 ⟨rfl, hb1⟩; replace c0 := cell_via hb1 c0; replace c1 := cell_via hb1 c1; replace c2 := cell_via hb1 c2; have hbl := World.block_lt_of_cell? w1 _ c2; simp only at hbl)
      refine (copied_any l _ w _ (bel_tr (bel_one _ _) hb1) HL.out hsm HIT.out).mono ?_
      rintro e w2 hret
      rcases hret with ⟨hb2, ⟨h0, _⟩ | ⟨v3, vs, g, cap, spare, rfl, hcop⟩⟩
      · rw [h0] at hil; simp at hil
      have hvl : i < vs.length := by rw [hcop.len]; exact hil
      obtain ⟨u3, hu3⟩ : ∃ u3, vs[i]? = some u3 := ⟨_, List.getElem?_eq_getElem hvl⟩
      obtain ⟨-, -, k2⟩ := hcop.cell HQ.out hu3
      have hit3 := hcop.items HQ.out hu3
      obtain ⟨cs, hm0, ho0, hn0⟩ := hcop.own.row i u3 q hu3 HQ.out
      obtain ⟨gi, ci, spi, rfl, hgib, hgi, hnc, hcm⟩ := own_form ho0 (by rw [HQI.out]; simp)
      have hgig : gi ≠ g := fun e => hn0 (by rw [e]; rfl)
      have hgil := blk_lt hgi
      have hgl := blk_lt hcop.blk
      have kf := blk_frozen hcop.blk (i * 3 + 2)
      have hr : w.heap.size < w1.heap.size := by have := hb1.size; simp at this; omega
      have hz := (new_cells (bel_tr hb1 hb2)).1
      have hzf := (new_cells (bel_tr hb1 hb2)).2
      obtain ⟨_, _, hv3, -, -, hat⟩ := id hit3
      injection hv3 with e1 e2 e3
      subst e1 e3
      obtain ⟨_, _, hbo, v2, hv2, d0, d1, d2, d3, d4, d5, d6⟩ := hat 0 x (by rw [HQI.out]; rfl)
      simp only [Option.some.injEq, Addr.mk.injEq, and_true] at hbo
      obtain ⟨rfl, rfl⟩ := hbo
      simp only [Nat.zero_mul, Nat.add_zero, Nat.zero_add] at d0 d1 d2 d3 d4 d5 d6
      have HV := Lib.hid hv2
      obtain ⟨A3, c3, rfl, -⟩ := hv2
      have hn1 : (0 : Int) < (q.items.length : Int) := by rw [HQI.out, List.length_cons]; omega
      have hn2 : 1 ≤ q.items.length := by omega
      have HCOP := Lib.hid hcop
      have HGI := Lib.hid hgi
      have HM0 := Lib.hid hm0
      have HO0 := Lib.hid ho0
      have HD5 := Lib.hid d5
      have hval := hcop.val
      have hcap := hcop.le
      have hgb := hcop.base
      subst hval
      clear hcop hu3 hm0 hn0 ho0 hgi hat hit3 e2 c0 c1 c2
      by_cases hc1 : ci = 1
      · go_wp2
        refine wp_gen (fun W hW => ?_)
        have hWz : ∀ j, W.cell? ⟨w.heap.size, j, none⟩ = w2.cell? ⟨w.heap.size, j, none⟩ := fun j => World.cell?_of_block (by rw [hW, Below.heap_alloc _ _ _ (by simp; omega), Below.heap_setCell _ _ _ _ (by simp; omega)])
        have hWf : ∀ j, W.frozen? ⟨w.heap.size, j, none⟩ = false := fun j => (World.frozen?_of_block (by rw [hW, Below.heap_alloc _ _ _ (by simp; omega), Below.heap_setCell _ _ _ _ (by simp; omega)])).trans (hzf j)
        have hWb : W.heap[w2.heap.size]? = some (.cells #[.int .i64 x.kind, .int .i64 x.source, .int .i64 x.seq, .int .i64 x.type, .int .i64 x.time, .slice A3 x.values.length c3, .int .i64 x.number] 39 (0, 0)) := by
          have hh := heap_alloc_new (w2.setCell ⟨g, i * 3 + 2, none⟩ (.slice (some ⟨gi, 0, none⟩) (q.items.length - 1) 0)) (.cells #[.int .i64 x.kind, .int .i64 x.source, .int .i64 x.seq, .int .i64 x.type, .int .i64 x.time, .slice A3 x.values.length c3, .int .i64 x.number] 39 (0, 0))
          rw [World.size_setCell] at hh
          rw [hW]; exact hh
        have hbx : ∀ j, W.cell? ⟨w2.heap.size, j, none⟩ = #[.int .i64 x.kind, .int .i64 x.source, .int .i64 x.seq, .int .i64 x.type, .int .i64 x.time, .slice A3 x.values.length c3, .int .i64 x.number][j]? := fun j => by simp [World.cell?, hWb]
        have HWk : Hid (∀ b, b < w2.heap.size → b ≠ g → W.heap[b]? = w2.heap[b]?) := Lib.hid (fun b hb hbg => by rw [hW, Below.heap_alloc _ _ _ (by simp; omega), Below.heap_setCell _ _ _ _ hbg])
        have HWg : Hid (W.heap[g]? = some (.cells ((qcells l vs ++ spare).set (i * 3 + 2) (.slice (some ⟨gi, 0, none⟩) (q.items.length - 1) 0)).toArray 69 (0, 0))) := Lib.hid (by rw [hW, Below.heap_alloc _ _ _ (by simp; omega), blk_set HCOP.out.blk])
        have HWs : Hid (w2.heap.size ≤ W.heap.size) := Lib.hid (by rw [hW]; simp)
        have HWB : Hid (Below w.heap.size w W) := Lib.hid (by rw [hW]; exact bel_al (bel_set HCOP.out.bel (Nat.le_trans HCOP.out.wB HCOP.out.base) _) _)
        simp only [hz] at hWz
        clear hW hWb hz hzf k2 kf d0 d1 d2 d3 d4 d5 d6
        go_region
        go_wp2
        rw [HR.out]
        refine bodyPost_ret (v := .tuple #[.slice (some ⟨g, 0, none⟩) l.length cap, itemV x (.slice A3 x.values.length c3), .int .i64 0]) (by simp [results, Try.results23, go_sem, itemV, hWz]) rfl ?_
        exact recv_end HCOP.out hil HQI.out hr HM0.out HO0.out hgig HD5.out HWk.out (by have h := HWg.out; rw [show ci - 1 = 0 by omega]; exact h) (fun b hb => by simp [World.drew, World.setCell, Array.getElem?_modify, Ne.symm hb]) (by refine Below.drew ?_; (repeat (with_reducible refine bel_set ?_ (Nat.le_refl _) _)); exact HWB.out) (.inl hc1)
      · go_wp2
        refine wp_gen (fun W hW => ?_)
        have hWz : ∀ j, W.cell? ⟨w.heap.size, j, none⟩ = w2.cell? ⟨w.heap.size, j, none⟩ := fun j => World.cell?_of_block (by rw [hW, Below.heap_alloc _ _ _ (by simp; omega), Below.heap_setCell _ _ _ _ (by simp; omega)])
        have hWf : ∀ j, W.frozen? ⟨w.heap.size, j, none⟩ = false := fun j => (World.frozen?_of_block (by rw [hW, Below.heap_alloc _ _ _ (by simp; omega), Below.heap_setCell _ _ _ _ (by simp; omega)])).trans (hzf j)
        have hWb : W.heap[w2.heap.size]? = some (.cells #[.int .i64 x.kind, .int .i64 x.source, .int .i64 x.seq, .int .i64 x.type, .int .i64 x.time, .slice A3 x.values.length c3, .int .i64 x.number] 39 (0, 0)) := by
          have hh := heap_alloc_new (w2.setCell ⟨g, i * 3 + 2, none⟩ (.slice (some ⟨gi, 7, none⟩) (q.items.length - 1) (ci - 1))) (.cells #[.int .i64 x.kind, .int .i64 x.source, .int .i64 x.seq, .int .i64 x.type, .int .i64 x.time, .slice A3 x.values.length c3, .int .i64 x.number] 39 (0, 0))
          rw [World.size_setCell] at hh
          rw [hW]; exact hh
        have hbx : ∀ j, W.cell? ⟨w2.heap.size, j, none⟩ = #[.int .i64 x.kind, .int .i64 x.source, .int .i64 x.seq, .int .i64 x.type, .int .i64 x.time, .slice A3 x.values.length c3, .int .i64 x.number][j]? := fun j => by simp [World.cell?, hWb]
        have HWk : Hid (∀ b, b < w2.heap.size → b ≠ g → W.heap[b]? = w2.heap[b]?) := Lib.hid (fun b hb hbg => by rw [hW, Below.heap_alloc _ _ _ (by simp; omega), Below.heap_setCell _ _ _ _ hbg])
        have HWg : Hid (W.heap[g]? = some (.cells ((qcells l vs ++ spare).set (i * 3 + 2) (.slice (some ⟨gi, 7, none⟩) (q.items.length - 1) (ci - 1))).toArray 69 (0, 0))) := Lib.hid (by rw [hW, Below.heap_alloc _ _ _ (by simp; omega), blk_set HCOP.out.blk])
        have HWs : Hid (w2.heap.size ≤ W.heap.size) := Lib.hid (by rw [hW]; simp)
        have HWB : Hid (Below w.heap.size w W) := Lib.hid (by rw [hW]; exact bel_al (bel_set HCOP.out.bel (Nat.le_trans HCOP.out.wB HCOP.out.base) _) _)
        simp only [hz] at hWz
        clear hW hWb hz hzf k2 kf d0 d1 d2 d3 d4 d5 d6
        go_region
        go_wp2
        rw [HR.out]
        refine bodyPost_ret (v := .tuple #[.slice (some ⟨g, 0, none⟩) l.length cap, itemV x (.slice A3 x.values.length c3), .int .i64 0]) (by simp [results, Try.results23, go_sem, itemV, hWz]) rfl ?_
        exact recv_end HCOP.out hil HQI.out hr HM0.out HO0.out hgig HD5.out HWk.out HWg.out (fun b hb => by simp [World.drew, World.setCell, Array.getElem?_modify, Ne.symm hb]) (by refine Below.drew ?_; (repeat (with_reducible refine bel_set ?_ (Nat.le_refl _) _)); exact HWB.out) (.inr rfl)
  · obtain ⟨y, hy⟩ : ∃ y, y = (foundR l f t).2 := ⟨_, rfl⟩
    have hfy : foundR l f t = (0, y) := Prod.ext (found_no hf) hy.symm
    have HR := Lib.hid (receiveR_no hf)
    have g1 : (y == 0) = false := by rw [hy]; simpa using hf
    have g2 : (y != 0) = true := by rw [hy]; simpa using hf
    have HF := Lib.hid hfy
    have HY := Lib.hid hy
    clear hy hfy hf
    go_enter Try.func23, Try.ntmps23
    go_wp2_with (go_at_call 36; refine (find_at (HL.out.stays queueAt_stays (bel_one _ _)) hsm HF.out).mono ?_; rintro e w1 ⟨rfl, hb1⟩; obtain ⟨hz, hzf⟩ := new_cells hb1)
    rw [HR.out, ← HY.out]
    exact bodyPost_ret (v := .tuple #[.slice none 0 0, itemV zeroItem (.slice none 0 0), .int .i64 y]) (by simp [results, Try.results23, go_sem, itemV, zeroItem, hz]) rfl ⟨_, _, rfl, nil_queues _, Sl.nil _ _ _ _ _ (Nat.zero_le _), (by (repeat (with_reducible refine bel_set ?_ (Nat.le_refl _) _)); exact bel_tr (bel_one _ _) hb1)⟩
end Go.Proofs.Yteonfoaemljndaa
