/- Broadcast, as the reference does it. -/
import Derived.Test.YteonfoaemljndaaBcast
import Derived.Test.YteonfoaemljndaaWith
import Derived.Test.YteonfoaemljndaaRrecv
import Derived.Deep.RegionHeld3
namespace Go.Proofs.Yteonfoaemljndaa
open Go.RowKit

/-- 'append(s, x...)' at a step of a region that draws its order; s is a row of the call's own -/
theorem step_app {P : Program} (w : World) {ops : Array Oper} {o : Oper} {a : Act} {K : Act → World → Prop} {Q : Exit → Act → World → Prop} {E : Prop} (hgd : o.guard = none) (s x : Operand) (t : TypeId)
    (ho : o.op = .call { callee := .builtin .append, args := #[s, x], argTypes := #[t, t] })
    (base : Nat) (e : TypeId) (i : TypeInfo) (z : Value) (size bytes : Nat) (ht : P.underlying t = some (.slice e)) (hi : P.info? e = some i) (hz : i.zero = some z)
    (hsize : i.size = size) (hby : i.bytes = bytes) (hzs : z.cells.size = size) (hsz : 0 < size)
    (v : Value) (n : Nat) (xs : List Value) (hs : a.eval s = v) (hown : w.ownsRow base e size v n xs)
    (A : Option Addr) (m c : Nat) (news : List Value) (hx : a.eval x = .slice A m c) (hsrc : Src w A m size news)
    (h63 : n + m ≤ maxLen) (hbytes : (n + m) * bytes ≤ 140737488355328) (hbase : base ≤ w.heap.size)
    (h : ∀ v' w', w'.ownsRow base e size v' (n + m) (xs ++ news) → w.grownBy w' v.ownBlock → (v'.ownBlock = v.ownBlock ∨ v'.ownBlock = some w.heap.size) → K (a.put o.dst v') w') :
    if Region.wanted o (yielded ops a.tmps) = true then Oper.wp P o a w K Q else E := by
  have hw : Region.wanted o (yielded ops a.tmps) = true := by simp [Region.wanted, hgd]
  rw [if_pos hw]
  obtain ⟨v', w', hrun, h2, h3, h4⟩ := run_app (P := P) w base t o.type e i z size bytes ht hi hz hsize hby hzs hsz v n xs hown A m c news hsrc h63 hbytes hbase
  unfold Oper.wp execOp
  simp only [ho, resolve, invoke, builtin, Sem.run_bind, Sem.run_pure, Result.andThen_ok, List.map_toArray, List.map_cons, List.map_nil, hs, hx, hrun]
  exact h v' w' h2 h3 h4

theorem ownsRow_empty' (w : World) (base : Nat) (e : TypeId) (size k : Nat) (hk : k = w.heap.size) (h : base ≤ k) : (w.alloc (.cells #[] e)).ownsRow base e size (.slice (some ⟨k, 0, none⟩) 0 0) 0 [] := by
  subst hk; exact ownsRow_empty w base e size h
theorem src_blk {w : World} {k t n sz : Nat} {cs : List Value} (h : w.heap[k]? = some (.cells cs.toArray t (0, 0))) (hl : cs.length = n * sz) (h1 : ∀ u ∈ cs, u.oneCell' = true) : Src w (some ⟨k, 0, none⟩) n sz cs :=
  ⟨hl, h1, fun _ => ⟨k, 0, rfl, fun j u hj => by rw [Nat.zero_add, blk_cell h]; exact hj⟩⟩
theorem heap_new' (W : World) (k : Nat) (o : Obj) (hk : k = W.heap.size) : (W.alloc o).heap[k]? = some o := by subst hk; exact heap_alloc_new W o

set_option maxRecDepth 100000 in
set_option maxHeartbeats 1000000 in
theorem rbroadcast_any (l : List Queue) (v : Value) (f : Int) (x : Item) (vx : Value) (w : World) (hl : IsQueues w v l) (hx : IsVals w vx x.values) (hsm : l.length ≤ 1048576) (hit : ∀ q ∈ l, q.items.length ≤ 1048576) :
    Calls Try.prog 18 #[v, .int .i64 f, itemV x vx] w (QsRet w (bcastR l f x)) := by
  have HL := Lib.hid hl
  have HX := Lib.hid hx
  have HIT := Lib.hid hit
  clear hit
  obtain ⟨A, c, rfl, -⟩ := hl
  obtain ⟨Ax, cx, rfl, -⟩ := hx
  obtain ⟨e1, he1⟩ : ∃ e1, e1 = checkErr l := ⟨_, rfl⟩
  obtain ⟨e2, he2⟩ : ∃ e2, e2 = itemErr x := ⟨_, rfl⟩
  have HE1 := Lib.hid he1
  have HE2 := Lib.hid he2
  unfold itemV
  by_cases g1 : (e1 != 0) = true
  · have HR := Lib.hid (bcastR_chk (f := f) (x := x) (by rw [← he1]; simpa using g1 : checkErr l ≠ 0))
    go_enter Try.func18, Try.ntmps18
    go_wp2_with (go_at_call 20; refine (rcheck_any l _ _ (HL.out.stays queueAt_stays (bel_one _ _))).mono ?_; rw [← he1]; rintro e w1 ⟨rfl, hb1⟩; clear he1)
    go_ret2
    rw [HR.out, ← HE1.out]
    exact ⟨_, rfl, nil_queues _, bel_tr (bel_one _ _) hb1⟩
  · simp only [Bool.not_eq_true] at g1
    have HC0 := Lib.hid (by rw [← he1]; simpa using g1 : checkErr l = 0)
    by_cases g2 : (e2 != 0) = true
    · have HR := Lib.hid (bcastR_item (f := f) (x := x) HC0.out (by rw [← he2]; simpa using g2))
      go_enter Try.func18, Try.ntmps18
      go_wp2_with (first
        | (go_at_call 20; refine (rcheck_any l _ _ (HL.out.stays queueAt_stays (bel_one _ _))).mono ?_; rw [← he1]; rintro e w1 ⟨rfl, hb1⟩; clear he1; obtain ⟨hz, hzf⟩ := new_cells hb1)
        | (go_at_call 43; refine (ritem_any x Ax cx _).mono ?_; rw [← he2]; rintro e w2 ⟨rfl, hb2⟩; clear he2))
      go_ret2
      rw [HR.out, ← HE2.out]
      exact ⟨_, rfl, nil_queues _, bel_tr (bel_tr (bel_one _ _) hb1) hb2⟩
    · simp only [Bool.not_eq_true] at g2
      have HI0 := Lib.hid (by rw [← he2]; simpa using g2 : itemErr x = 0)
      obtain ⟨i0, hi0, hz0, hz1, hz2⟩ := info_parts info_item
      go_enter Try.func18, Try.ntmps18
      go_wp2_with (first
        | (go_at_call 20; refine (rcheck_any l _ _ (HL.out.stays queueAt_stays (bel_one _ _))).mono ?_; rw [← he1]; rintro e w1 ⟨rfl, hb1⟩; clear he1; obtain ⟨hz, hzf⟩ := new_cells hb1)
        | (go_at_call 43; refine (ritem_any x Ax cx _).mono ?_; rw [← he2]; rintro e w2 ⟨rfl, hb2⟩; clear he2 hz hzf))
      go_loopw [10, 11] (fun v i wr => ∃ (k : Nat), k ≤ l.length ∧ i = .int .i64 k ∧ Hid (IsQueues wr v (doneQ f x l k) ∧ Below w2.heap.size w2 wr ∧ ∀ q ∈ l.take k, fullQ f q = false)) (fun _ i _ => l.length - (intOf i).toNat)
      case atStart => exact ⟨0, Nat.zero_le _, rfl, by rw [doneQ_zero]; exact HL.out.stays queueAt_stays (bel_tr (bel_tr (bel_one _ _) hb1) hb2), Below.refl _ _, by simp⟩
      case round =>
        obtain ⟨k, hk, rfl, HI⟩ := hrel
        by_cases hlt : k < l.length
        · have hget := Lib.hid (List.getElem?_eq_getElem hlt)
          obtain ⟨q, hq⟩ : ∃ q, q = l[k] := ⟨_, rfl⟩
          have hqi := HIT.out q (by rw [hq]; exact List.getElem_mem hlt)
          rw [← hq] at hget
          clear hq
          have hk' : (k : Int) < (l.length : Int) := by omega
          have hbr := bel_tr (bel_tr hb1 hb2) HI.out.2.1
          have hbw := bel_tr (bel_one _ _) hbr
          obtain ⟨b, o, u, rfl, -, hu, c0, c1, c2⟩ := cell_of_queues HL.out hget.out
          have hwb := World.block_lt_of_cell? w _ c2
          replace c0 := cell_stays hbw c0
          replace c1 := cell_stays hbw c1
          replace c2 := cell_stays hbw c2
          have hbl := World.block_lt_of_cell? wr _ c2
          simp only at hbl hwb
          have HU := Lib.hid hu
          obtain ⟨Au, cu, rfl, -⟩ := hu
          have HBW := Lib.hid hbw
          by_cases hf : q.frm = f
          · have g3 : (q.frm != f) = false := by simpa using hf
            have HF := Lib.hid hf
            clear hf
            by_cases h4 : (q.items.length : Int) = 4096
            · have g4 : ((q.items.length : Int) == 4096) = true := by simpa using h4
              have HR := Lib.hid (bcastR_full HC0.out HI0.out hget.out (by simp [fullQ, HF.out, h4] : fullQ f q = true))
              clear h4 hbr hbw
              go_wp2_with fail
              go_ret2
              rw [HR.out]
              exact ⟨_, rfl, nil_queues _, HBW.out⟩
            · have g4 : ((q.items.length : Int) == 4096) = false := by simpa using h4
              have HFQ : Hid (fullQ f q = false) := Lib.hid (by simp only [fullQ, g4, Bool.and_false])
              clear h4
              obtain ⟨hz, hzf⟩ := new_cells hbr
              obtain ⟨csq, hmq1, hmqs, -⟩ := means_of_sl itemAt_movable HU.out
              have HQM := Lib.hid hmq1
              have HQS := Lib.hid hmqs
              clear hmq1 hmqs hbr hbw
              go_wp2_with fail
              have hdl := doneQ_length f x l k hk
              have hq4 : (q.items.length : Int) ≤ 4096 := ((checkFrom_sorted l none HC0.out).2.2 q (List.mem_of_getElem? hget.out)).2.1
              have z0 : wr.cell? ⟨w.heap.size, 0, none⟩ = some (.int .i64 x.kind) := hz 0
              have z1 : wr.cell? ⟨w.heap.size, 1, none⟩ = some (.int .i64 x.source) := hz 1
              have z2 : wr.cell? ⟨w.heap.size, 2, none⟩ = some (.int .i64 x.seq) := hz 2
              have z3 : wr.cell? ⟨w.heap.size, 3, none⟩ = some (.int .i64 x.type) := hz 3
              have z4 : wr.cell? ⟨w.heap.size, 4, none⟩ = some (.int .i64 x.time) := hz 4
              have z5 : wr.cell? ⟨w.heap.size, 5, none⟩ = some (.slice Ax x.values.length cx) := hz 5
              have z6 : wr.cell? ⟨w.heap.size, 6, none⟩ = some (.int .i64 x.number) := hz 6
              clear hz hzf
              go_region_held3 (fun W => W.cell? ⟨b, o + k * 3 + 2, none⟩ = some (.slice Au q.items.length cu) ∧ W.cell? ⟨w.heap.size, 0, none⟩ = some (.int .i64 x.kind) ∧ W.cell? ⟨w.heap.size, 1, none⟩ = some (.int .i64 x.source) ∧ W.cell? ⟨w.heap.size, 2, none⟩ = some (.int .i64 x.seq) ∧ W.cell? ⟨w.heap.size, 3, none⟩ = some (.int .i64 x.type) ∧ W.cell? ⟨w.heap.size, 4, none⟩ = some (.int .i64 x.time) ∧ W.cell? ⟨w.heap.size, 5, none⟩ = some (.slice Ax x.values.length cx) ∧ W.cell? ⟨w.heap.size, 6, none⟩ = some (.int .i64 x.number)) (with_reducible exact cells8_stay (p1 := (b, o + k * 3 + 2)) (p2 := (w.heap.size, 0)) (p3 := (w.heap.size, 1)) (p4 := (w.heap.size, 2)) (p5 := (w.heap.size, 3)) (p6 := (w.heap.size, 4)) (p7 := (w.heap.size, 5)) (p8 := (w.heap.size, 6)) (by repeat (first | with_reducible exact Below.refl _ _ | assumption | with_reducible refine Below.drew ?_ | with_reducible refine bel_al ?_ _ | with_reducible refine bel_tr ?_ (by assumption))) ⟨c2, z0, z1, z2, z3, z4, z5, z6⟩) (first
                | (refine step_app _ rfl (.tmp 45) (.tmp 50) 24 rfl wr.heap.size 39 i0 _ 7 72 Try.underlying24 hi0 hz0 hz1 hz2 rfl (by decide) (.slice (some ⟨wr.heap.size, 0, none⟩) 0 0) 0 [] rfl (by first | exact ownsRow_empty' wr.drew _ _ _ _ rfl (Nat.le_refl _) | exact ownsRow_below (ownsRow_empty' wr.drew _ _ _ _ rfl (Nat.le_refl _)) (bel_one _ _)) Au q.items.length cu csq rfl (HQS.out.stays (bel_tr HBW.out (by repeat (first | with_reducible exact Below.refl _ _ | assumption | with_reducible refine Below.drew ?_ | with_reducible refine bel_al ?_ _ | with_reducible refine bel_tr ?_ (by assumption))))) (by unfold maxLen; omega) (by omega) (by simp <;> omega) ?_; intro v3 w3 own3 hg3 hloc3; simp only [Nat.zero_add, List.nil_append] at own3; have hb3 : Below wr.heap.size wr w3 := Below.trans (by repeat (first | with_reducible exact Below.refl _ _ | assumption | with_reducible refine Below.drew ?_ | with_reducible refine bel_al ?_ _ | with_reducible refine bel_tr ?_ (by assumption))) (grown_below hg3 (by simp <;> omega) (fun g h => by simp [Value.ownBlock] at h; omega)); (first | have hsx : Src w3 (some ⟨wr.heap.size + 1, 0, none⟩) 1 7 (itemCells x (.slice Ax x.values.length cx)) := src_blk (t := 39) ((hg3.block (wr.heap.size + 1) (by simp) (by simp [Value.ownBlock])).trans (heap_new' _ _ _ (by simp))) rfl (item_means HX.out).2.1 | have hsx : Src w3 (some ⟨wr.heap.size, 0, none⟩) 1 7 (itemCells x (.slice Ax x.values.length cx)) := src_blk (t := 39) ((hg3.block wr.heap.size (by simp <;> omega) (by simp [Value.ownBlock])).trans (((bel_one _ _).block wr.heap.size (by simp)).trans (heap_new' _ _ _ (by simp)))) rfl (item_means HX.out).2.1 | skip); clear hg3 hloc3)
                | (refine step_app _ rfl (.tmp 45) (.tmp 50) 24 rfl wr.heap.size 39 i0 _ 7 72 Try.underlying24 hi0 hz0 hz1 hz2 rfl (by decide) (.slice (some ⟨wr.heap.size + 1, 0, none⟩) 0 0) 0 [] rfl (ownsRow_empty' (wr.drew.alloc (.cells (itemCells x (.slice Ax x.values.length cx)).toArray 39)) _ _ _ _ (by simp) (by omega)) Au q.items.length cu csq rfl (HQS.out.stays (bel_tr HBW.out (by repeat (first | with_reducible exact Below.refl _ _ | assumption | with_reducible refine Below.drew ?_ | with_reducible refine bel_al ?_ _ | with_reducible refine bel_tr ?_ (by assumption))))) (by unfold maxLen; omega) (by omega) (by simp <;> omega) ?_; intro v3 w3 own3 hg3 hloc3; simp only [Nat.zero_add, List.nil_append] at own3; have hb3 : Below wr.heap.size wr w3 := Below.trans (by repeat (first | with_reducible exact Below.refl _ _ | assumption | with_reducible refine Below.drew ?_ | with_reducible refine bel_al ?_ _ | with_reducible refine bel_tr ?_ (by assumption))) (grown_below hg3 (by simp <;> omega) (fun g h => by simp [Value.ownBlock] at h; omega)); (first | have hsx : Src w3 (some ⟨wr.heap.size + 1, 0, none⟩) 1 7 (itemCells x (.slice Ax x.values.length cx)) := src_blk (t := 39) ((hg3.block (wr.heap.size + 1) (by simp) (by simp [Value.ownBlock])).trans (heap_new' _ _ _ (by simp))) rfl (item_means HX.out).2.1 | have hsx : Src w3 (some ⟨wr.heap.size, 0, none⟩) 1 7 (itemCells x (.slice Ax x.values.length cx)) := src_blk (t := 39) ((hg3.block wr.heap.size (by simp <;> omega) (by simp [Value.ownBlock])).trans (((bel_one _ _).block wr.heap.size (by simp)).trans (heap_new' _ _ _ (by simp)))) rfl (item_means HX.out).2.1 | skip); clear hg3 hloc3)
                | (refine step_app _ rfl (.tmp 51) (.tmp 53) 24 rfl wr.heap.size 39 i0 _ 7 72 Try.underlying24 hi0 hz0 hz1 hz2 rfl (by decide) v3 q.items.length csq rfl (ownsRow_below own3 (bel_one _ _)) (some ⟨w3.heap.size, 0, none⟩) 1 1 (itemCells x (.slice Ax x.values.length cx)) rfl (src_new' _ _ _ 1 7 _ rfl rfl (item_means HX.out).2.1) (by unfold maxLen; omega) (by omega) (by have := hb3.size; simp <;> omega) ?_; intro v4 w4 own4 hg4 hloc4; have hb4 : Below wr.heap.size wr w4 := Below.trans (by repeat (first | with_reducible exact Below.refl _ _ | assumption | with_reducible refine Below.drew ?_ | with_reducible refine bel_al ?_ _ | with_reducible refine bel_tr ?_ (by assumption))) (grown_below hg4 (by have := hb3.size; simp <;> omega) (fun g h => (ownsRow_lt own3 h).1)); have HI4 := Lib.hid (sl_of_means (HQM.out.app (item_means HX.out)) (bel_tr HBW.out hb4) (by rw [List.length_append]; exact own4)); clear own4 hg4 hloc4)
                | (refine step_app _ rfl (.tmp 51) (.tmp 53) 24 rfl wr.heap.size 39 i0 _ 7 72 Try.underlying24 hi0 hz0 hz1 hz2 rfl (by decide) v3 q.items.length csq rfl (own3) (some ⟨wr.heap.size + 1, 0, none⟩) 1 1 (itemCells x (.slice Ax x.values.length cx)) rfl (hsx) (by unfold maxLen; omega) (by omega) (by have := hb3.size; simp <;> omega) ?_; intro v4 w4 own4 hg4 hloc4; have hb4 : Below wr.heap.size wr w4 := Below.trans (by repeat (first | with_reducible exact Below.refl _ _ | assumption | with_reducible refine Below.drew ?_ | with_reducible refine bel_al ?_ _ | with_reducible refine bel_tr ?_ (by assumption))) (grown_below hg4 (by have := hb3.size; simp <;> omega) (fun g h => (ownsRow_lt own3 h).1)); have HI4 := Lib.hid (sl_of_means (HQM.out.app (item_means HX.out)) (bel_tr HBW.out hb4) (by rw [List.length_append]; exact own4)); clear own4 hg4 hloc4)
                | (refine step_app _ rfl (.tmp 51) (.tmp 53) 24 rfl wr.heap.size 39 i0 _ 7 72 Try.underlying24 hi0 hz0 hz1 hz2 rfl (by decide) v3 q.items.length csq rfl (own3) (some ⟨wr.heap.size, 0, none⟩) 1 1 (itemCells x (.slice Ax x.values.length cx)) rfl (hsx) (by unfold maxLen; omega) (by omega) (by have := hb3.size; simp <;> omega) ?_; intro v4 w4 own4 hg4 hloc4; have hb4 : Below wr.heap.size wr w4 := Below.trans (by repeat (first | with_reducible exact Below.refl _ _ | assumption | with_reducible refine Below.drew ?_ | with_reducible refine bel_al ?_ _ | with_reducible refine bel_tr ?_ (by assumption))) (grown_below hg4 (by have := hb3.size; simp <;> omega) (fun g h => (ownsRow_lt own3 h).1)); have HI4 := Lib.hid (sl_of_means (HQM.out.app (item_means HX.out)) (bel_tr HBW.out hb4) (by rw [List.length_append]; exact own4)); clear own4 hg4 hloc4)
                | (go_at_call 41; refine (with_any (doneQ f x l k) _ k (q.items ++ [x]) v4 _ (HI.out.1.stays queueAt_stays hb4) HI4.out (by omega) (by omega) (by simp; omega)).mono ?_; rintro e w5 ⟨v5, rfl, hq5, hb5⟩; have HQ5 := Lib.hid hq5; clear hq5))
              all_goals
                have hbr5 : Below wr.heap.size wr w5 := bel_tr hb4 hb5
                go_wp2
                go_roundw
                case rel =>
                  refine ⟨k + 1, by omega, by go_num, by rw [doneQ_take hget.out HF.out]; exact HQ5.out, bel_tr HI.out.2.1 hbr5, ?_⟩
                  intro p hp
                  rw [take_snoc' hget.out] at hp
                  rcases List.mem_append.1 hp with hp | hp
                  · exact HI.out.2.2 p hp
                  · simp at hp; subst hp; exact HFQ.out
                case measure => simp [intOf]; omega
          · have g3 : (q.frm != f) = true := by simpa using hf
            have HF := Lib.hid hf
            clear hf hbr hbw
            go_wp2_with fail
            go_roundw
            case rel =>
              refine ⟨k + 1, by omega, by go_num, by rw [doneQ_skip hget.out HF.out]; exact HI.out.1, HI.out.2.1, ?_⟩
              intro p hp
              rw [take_snoc' hget.out] at hp
              rcases List.mem_append.1 hp with hp | hp
              · exact HI.out.2.2 p hp
              · simp at hp; subst hp; simp [fullQ, HF.out]
            case measure => simp [intOf]; omega
        · obtain rfl : k = l.length := by omega
          have HR := Lib.hid (bcastR_ok (f := f) HC0.out HI0.out (by have h7 := HI.out.2.2; rw [List.take_length] at h7; exact h7))
          go_wp2
          go_ret2
          rw [HR.out]
          have h8 := HI.out.1
          rw [doneQ_end] at h8
          exact ⟨_, rfl, h8, bel_tr (bel_tr (bel_tr (bel_one _ _) hb1) hb2) HI.out.2.1⟩
end Go.Proofs.Yteonfoaemljndaa
