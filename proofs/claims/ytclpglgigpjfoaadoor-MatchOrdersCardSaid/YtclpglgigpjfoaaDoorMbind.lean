/- The examples of the law: its events, its matches. -/
import Derived.Test.YtclpglgigpjfoaaDoorKown
import Derived.Test.YtclpglgigpjfoaaDoorMev
import Derived.Test.YtclpglgigpjfoaaDoorReg
namespace Go.Proofs.YtclpglgigpjfoaaDoor
open Go.RowKit

def evs3 : List Evt := [⟨0, 1, 0, 3, []⟩, ⟨0, 0, 0, 5, []⟩, ⟨0, 2, 0, 5, []⟩]
theorem at_app {P : Program} (w : World) {o : Oper} {a : Act} {K : Act → World → Prop} {Q : Exit → Act → World → Prop} (s x : Operand) (t : TypeId)
    (ho : o.op = .call { callee := .builtin .append, args := #[s, x], argTypes := #[t, t] })
    (base : Nat) (e : TypeId) (i : TypeInfo) (z : Value) (size bytes : Nat) (ht : P.underlying t = some (.slice e)) (hi : P.info? e = some i) (hz : i.zero = some z)
    (hsize : i.size = size) (hby : i.bytes = bytes) (hzs : z.cells.size = size) (hsz : 0 < size)
    (v : Value) (n : Nat) (xs : List Value) (hs : a.eval s = v) (hown : w.ownsRow base e size v n xs)
    (A : Option Addr) (m c : Nat) (news : List Value) (hx : a.eval x = .slice A m c) (hsrc : Src w A m size news)
    (h63 : n + m ≤ maxLen) (hbytes : (n + m) * bytes ≤ 140737488355328) (hbase : base ≤ w.heap.size)
    (h : ∀ v' w', w'.ownsRow base e size v' (n + m) (xs ++ news) → w.grownBy w' v.ownBlock → (v'.ownBlock = v.ownBlock ∨ v'.ownBlock = some w.heap.size) → K (a.put o.dst v') w') :
    Oper.wp P o a w K Q := by
  obtain ⟨v', w', hrun, h2, h3, h4⟩ := run_app (P := P) w base t o.type e i z size bytes ht hi hz hsize hby hzs hsz v n xs hown A m c news hsrc h63 hbytes hbase
  unfold Oper.wp execOp
  simp only [ho, resolve, invoke, builtin, Sem.run_bind, Sem.run_pure, Result.andThen_ok, List.map_toArray, List.map_cons, List.map_nil, hs, hx, hrun]
  exact h v' w' h2 h3 h4
/-- the cells of the events of the examples -/
def EvCells (W : World) (G : Nat) : Prop := ∀ (j : Nat) (e : Evt), evs3[j]? = some e → W.cell? ⟨G, j * 5, none⟩ = some (.int .i64 e.src) ∧ W.cell? ⟨G, j * 5 + 1, none⟩ = some (.int .i64 e.sq) ∧ W.cell? ⟨G, j * 5 + 2, none⟩ = some (.int .i64 e.ty) ∧ W.cell? ⟨G, j * 5 + 3, none⟩ = some (.int .i64 e.tm) ∧ W.cell? ⟨G, j * 5 + 4, none⟩ = some (.slice none 0 0)
theorem evCells_mk {w : World} {b : Nat}
    (h : ∀ (i : Nat) (u : Value), ([Value.int .i64 0, .int .i64 1, .int .i64 0, .int .i64 3, .slice none 0 0, .int .i64 0, .int .i64 0, .int .i64 0, .int .i64 5, .slice none 0 0, .int .i64 0, .int .i64 2, .int .i64 0, .int .i64 5, .slice none 0 0] : List Value)[i]? = some u → w.cell? ⟨b, i, none⟩ = some u) : EvCells w b := by
  intro k x hk
  match k, hk with
  | 0, hk => simp [evs3] at hk; subst hk; exact ⟨h 0 _ rfl, h 1 _ rfl, h 2 _ rfl, h 3 _ rfl, h 4 _ rfl⟩
  | 1, hk => simp [evs3] at hk; subst hk; exact ⟨h 5 _ rfl, h 6 _ rfl, h 7 _ rfl, h 8 _ rfl, h 9 _ rfl⟩
  | 2, hk => simp [evs3] at hk; subst hk; exact ⟨h 10 _ rfl, h 11 _ rfl, h 12 _ rfl, h 13 _ rfl, h 14 _ rfl⟩
  | k + 3, hk => simp [evs3] at hk
theorem evs3_vals {j : Nat} {e : Evt} (h : evs3[j]? = some e) : e.vals = [] := by
  match j, h with
  | 0, h => simp [evs3] at h; subst h; rfl
  | 1, h => simp [evs3] at h; subst h; rfl
  | 2, h => simp [evs3] at h; subst h; rfl
  | k + 3, h => simp [evs3] at h
theorem EvCells.is {w : World} {b : Nat} (h : EvCells w b) : IsEvts w (.slice (some ⟨b, 0, none⟩) 3 3) evs3 := by
  refine ⟨_, 3, rfl, Nat.le_refl _, by decide, fun k x hk => ⟨b, 0, rfl, ?_⟩⟩
  obtain ⟨h0, h1, h2, h3, h4⟩ := h k x hk
  rw [Nat.zero_add]
  exact ⟨_, by rw [evs3_vals hk]; exact Sl.nil _ _ _ _ _ (Nat.zero_le _), h0, h1, h2, h3, h4⟩
theorem events_any (w : World) : Calls Tryd.prog 14 #[] w fun e W => e = .returned (.slice (some ⟨w.heap.size, 0, none⟩) 3 3) ∧ EvCells W w.heap.size ∧ Below w.heap.size w W := by
  go_enter Tryd.func14, Tryd.ntmps14
  go_wp2
  go_ret
  exact ⟨rfl, evCells_mk (fun i u hu => by rw [blk_cell (heap_alloc_new w _)]; exact hu), (by repeat (first | exact Below.refl _ _ | assumption | refine Below.drew ?_ | refine bel_al ?_ _ | refine bel_set ?_ (by omega) _ | refine bel_tr ?_ (by assumption)))⟩
def zeroEv : Evt := ⟨0, 0, 0, 0, []⟩
/-- the binding of a pair: a variable, and the number of an event -/
def bindB (p : Int × Nat) : Bnd := ⟨p.1, (evs3.getD p.2 zeroEv).tm, (evs3.getD p.2 zeroEv).src, (evs3.getD p.2 zeroEv).sq⟩
def PairAt (w : World) (b p : Nat) (x : Int × Nat) : Prop := w.cell? ⟨b, p, none⟩ = some (.int .i64 x.1) ∧ w.cell? ⟨b, p + 1, none⟩ = some (.int .i64 (x.2 : Int))
abbrev IsPairs (w : World) (v : Value) (l : List (Int × Nat)) : Prop := Sl PairAt 2 w v l
def cellsB (l : List Bnd) : List Value := l.flatMap fun x => [.int .i64 x.v, .int .i64 x.t, .int .i64 x.s, .int .i64 x.n]
theorem cellsB_app (l m : List Bnd) : cellsB (l ++ m) = cellsB l ++ cellsB m := List.flatMap_append
theorem bnds_mean (w : World) : ∀ l : List Bnd, Means BndAt 4 w (cellsB l) l
  | [] => Means.nil
  | x :: l => by
    have h1 : Means BndAt 4 w [.int .i64 x.v, .int .i64 x.t, .int .i64 x.s, .int .i64 x.n] [x] := ⟨rfl, by simp [Value.oneCell'], fun W b o _ hc k y hk => by
      cases k with
      | zero =>
        simp at hk; subst hk
        have c0 := hc 0 _ rfl
        have c1 := hc 1 _ rfl
        have c2 := hc 2 _ rfl
        have c3 := hc 3 _ rfl
        exact ⟨by simpa using c0, by simpa using c1, by simpa using c2, by simpa using c3⟩
      | succ k => simp at hk⟩
    exact h1.app (bnds_mean w l)
def BindRet (w : World) (l : List Bnd) (e : Ending) (W : World) : Prop := ∃ v, e = .returned (matV v) ∧ IsBnds W v l ∧ Below w.heap.size w W

set_option maxRecDepth 100000 in
set_option maxHeartbeats 4000000 in
theorem bind_any (ps : List (Int × Nat)) (v : Value) (w : World) (hl : IsPairs w v ps) (hps : ∀ p ∈ ps, p.2 < 3) (hlen : ps.length ≤ 100) :
    Calls Tryd.prog 11 #[v] w (BindRet w (ps.map bindB)) := by
  obtain ⟨A, c, rfl, h1, h2, hat⟩ := hl
  have hn := len_i64 h1 h2
  have HL := Lib.hid hat
  have HPS := Lib.hid hps
  obtain ⟨j0, hj0, hy0, hy1, hy2⟩ := info_parts info_bnd
  clear hat h1 h2 hps
  go_enter Tryd.func11, Tryd.ntmps11
  go_wp2_with fail
  refine wp_gen fun w0 e0 => ?_
  obtain ⟨M, hM⟩ : ∃ M, w.heap.size + 1 = M := ⟨_, rfl⟩
  have hb0 : Below w.heap.size w w0 := by rw [e0]; exact (by repeat (first | exact Below.refl _ _ | assumption | refine Below.drew ?_ | refine bel_al ?_ _ | refine bel_set ?_ (by omega) _ | refine bel_tr ?_ (by assumption)))
  have hcM : w0.heap[M]? = some (.cells [Value.slice none 0 0].toArray 24 (0, 0)) := by rw [e0, ← hM]; exact heap_new' _ _ _ (by simp)
  have hcR : w0.heap[w.heap.size]? = some (.cells [Value.slice none 0 0].toArray 24 (0, 0)) := by rw [e0]; exact (Below.heap_alloc _ _ _ (by simp)).trans (heap_alloc_new w _)
  have hsM : M + 1 = w0.heap.size := by rw [e0, ← hM]; simp
  have hwM : w.heap.size < M := by omega
  rw [hM]
  have HB0 := Lib.hid hb0
  have HCM := Lib.hid hcM
  have HCR := Lib.hid hcR
  have HSM := Lib.hid hsM
  clear e0 hb0 hcM hcR hM hsM
  go_loopw [8] (fun i wr => ∃ (k : Nat) (u : Value), k ≤ ps.length ∧ i = .int .i64 k ∧ Hid (wr.cell? ⟨M, 0, none⟩ = some u ∧ wr.frozen? ⟨M, 0, none⟩ = false ∧ wr.ownsRow (M + 1) 41 4 u k (cellsB ((ps.take k).map bindB)) ∧ Below w.heap.size w wr ∧ M + 1 ≤ wr.heap.size ∧ wr.heap[w.heap.size]? = some (.cells [Value.slice none 0 0].toArray 24 (0, 0)))) (fun i _ => ps.length - (intOf i).toNat)
  case atStart => exact ⟨0, .slice none 0 0, Nat.zero_le _, rfl, Lib.hid ⟨by rw [blk_cell HCM.out]; rfl, blk_frozen HCM.out 0, ⟨by simp [cellsB], .inl ⟨rfl, rfl⟩⟩, HB0.out, Nat.le_of_eq HSM.out, HCR.out⟩⟩
  case round =>
    obtain ⟨k, u, hk, rfl, hI⟩ := hrel
    have hbr := hI.out.2.2.2.1
    have hMr := hI.out.2.2.2.2.1
    by_cases hlt : k < ps.length
    · have hk' : (k : Int) < (ps.length : Int) := by omega
      obtain ⟨b, o, rfl, c0, c1⟩ := HL.out k ps[k] (List.getElem?_eq_getElem hlt)
      replace c0 := cell_stays hbr c0
      replace c1 := cell_stays hbr c1
      have hget := Lib.hid (List.getElem?_eq_getElem hlt)
      have hx3 := HPS.out ps[k] (List.getElem_mem hlt)
      obtain ⟨x, hx⟩ : ∃ x, x = ps[k] := ⟨_, rfl⟩
      rw [← hx] at hget c0 c1 hx3
      clear hx
      obtain ⟨pv, j⟩ := x
      simp only at c0 c1 hx3
      obtain ⟨ev, hev⟩ : ∃ ev, evs3[j]? = some ev := ⟨_, List.getElem?_eq_getElem (by simpa [evs3] using hx3)⟩
      have HEV := Lib.hid hev
      have hj3 : (j : Int) < 3 := by omega
      obtain ⟨A4, c4, hv4⟩ := slice_own hI.out.2.2.1
      subst hv4
      have o0 := hI.out.1
      have of0 := hI.out.2.1
      clear hev
      go_wp2_with fail
      refine wp_gen fun w5 e5 => ?_
      obtain ⟨X, hX⟩ : ∃ X, wr.heap.size = X := ⟨_, rfl⟩
      have hb5 : Below wr.heap.size wr w5 := by rw [e5]; exact (by repeat (first | exact Below.refl _ _ | assumption | refine Below.drew ?_ | refine bel_al ?_ _ | refine bel_set ?_ (by omega) _ | refine bel_tr ?_ (by assumption)))
      have y0 : w5.cell? ⟨X, 0, none⟩ = some (.int .i64 pv) := by rw [e5, ← hX]; go_simp
      have y1 : w5.cell? ⟨X, 1, none⟩ = some (.int .i64 (j : Int)) := by rw [e5, ← hX]; go_simp
      have hMX : M < X := by omega
      have hX5 : X < w5.heap.size := by rw [e5, ← hX]; simp
      replace o0 := cell_stays hb5 o0
      replace of0 : w5.frozen? ⟨M, 0, none⟩ = false := (World.frozen?_of_block (a := ⟨M, 0, none⟩) (hb5.block M (by omega))).trans of0
      have HO5 := Lib.hid (ownsRow_below hI.out.2.2.1 hb5)
      have HB5 := Lib.hid (bel_tr hbr hb5)
      have HR5 := Lib.hid ((hb5.block w.heap.size (by omega)).trans hI.out.2.2.2.2.2)
      have hGN : Hid (∀ g, (Value.slice A4 k c4).ownBlock = some g → M + 1 ≤ g ∧ g < w5.heap.size) := Lib.hid fun g h => ownsRow_lt HO5.out h
      have hGX : Hid (∀ g, (Value.slice A4 k c4).ownBlock = some g → X ≠ g) := Lib.hid fun g h => by have := (ownsRow_lt hI.out.2.2.1 h).2; omega
      rw [hX]
      clear e5 hb5 c0 c1 hX
      refine wp_region_noPanic ?_
      refine wp_region_P (fun W => W.cell? ⟨M, 0, none⟩ = some (.slice A4 k c4) ∧ W.cell? ⟨X, 0, none⟩ = some (.int .i64 pv) ∧ W.cell? ⟨X, 1, none⟩ = some (.int .i64 (j : Int))) 13 (by kernel_rfl) (⟨o0, y0, y1⟩) (fun hHeld => ?_)
      focus (refine wpAnyP_take (i := 0) (v := ?_) rfl (by kernel_rfl) (by kernel_rfl) (by kernel_rfl) (by kernel_rfl) (fun _ _ _ h => h) (Or.inl ⟨by rfl, ?_⟩) (by assumption) ?_; rotate_left 1; focus (intro wS hSw; (try dsimp only at hSw); go_simp <;> with_reducible rfl); try simp only [Act.put, List.setIfInBounds_toArray, List.set_cons_zero, List.set_cons_succ])
      focus (refine wpAnyP_take (i := 1) (v := ?_) rfl (by kernel_rfl) (by kernel_rfl) (by kernel_rfl) (by kernel_rfl) (fun _ _ _ h => h) (Or.inl ⟨by rfl, ?_⟩) (by assumption) ?_; rotate_left 1; focus (intro wS hSw; (try dsimp only at hSw); go_simp <;> with_reducible rfl); try simp only [Act.put, List.setIfInBounds_toArray, List.set_cons_zero, List.set_cons_succ])
      focus (refine wpAnyP_take (i := 2) (v := ?_) rfl (by kernel_rfl) (by kernel_rfl) (by kernel_rfl) (by kernel_rfl) (fun _ _ _ h => h) (Or.inl ⟨by rfl, ?_⟩) (by assumption) ?_; rotate_left 1; focus (intro wS hSw; (try dsimp only at hSw); go_simp <;> with_reducible rfl); try simp only [Act.put, List.setIfInBounds_toArray, List.set_cons_zero, List.set_cons_succ])
      focus (refine wpAnyP_take (i := 3) (v := ?_) rfl (by kernel_rfl) (by kernel_rfl) (by kernel_rfl) (by kernel_rfl) (fun _ _ _ h => h) (Or.inl ⟨by rfl, ?_⟩) (by assumption) ?_; rotate_left 1; focus (intro wS hSw; (try dsimp only at hSw); go_simp <;> with_reducible rfl); try simp only [Act.put, List.setIfInBounds_toArray, List.set_cons_zero, List.set_cons_succ])
      focus (refine wpAnyP_take (i := 5) (v := ?_) rfl (by kernel_rfl) (by kernel_rfl) (by kernel_rfl) (by kernel_rfl) (fun _ _ _ h => h) (Or.inl ⟨by rfl, ?_⟩) (by assumption) ?_; rotate_left 1; focus (intro wS hSw; (try dsimp only at hSw); go_simp <;> with_reducible rfl); try simp only [Act.put, List.setIfInBounds_toArray, List.set_cons_zero, List.set_cons_succ])
      focus (refine wpAnyP_take (i := 6) (v := ?_) rfl (by kernel_rfl) (by kernel_rfl) (by kernel_rfl) (by kernel_rfl) (fun _ _ _ h => h) (Or.inl ⟨by rfl, ?_⟩) (by assumption) ?_; rotate_left 1; focus (intro wS hSw; (try dsimp only at hSw); go_simp <;> with_reducible rfl); try simp only [Act.put, List.setIfInBounds_toArray, List.set_cons_zero, List.set_cons_succ])
      refine wpAnyP_ready (rs := [4]) (by kernel_rfl) (by simp) (by kernel_rfl) ?_
      refine AllReadyP.cons rfl (fun K hK => ?_) ?_
      focus (go_simp; go_at_call 14; refine calls_gen fun W8 e8 => ?_; have hb8 : Below w5.heap.size w5 W8 := (by rw [e8]; exact (by repeat (first | exact Below.refl _ _ | assumption | refine Below.drew ?_ | refine bel_al ?_ _ | refine bel_set ?_ (by omega) _ | refine bel_tr ?_ (by assumption)))); clear e8; refine (events_any W8).mono ?_; rintro e w6 ⟨rfl, hev6, hb6⟩; have hb56 := bel_tr hb8 hb6; obtain ⟨g0, g1, g2, g3, g4⟩ := hev6 j ev HEV.out; have hgl : W8.heap.size < w6.heap.size := World.block_lt_of_cell? w6 ⟨W8.heap.size, _, none⟩ g0; generalize W8.heap.size = G at g0 g1 g2 g3 g4 hgl hb6 ⊢; clear hb8 hb6 hev6; go_wp2_with fail)
      refine hK.out _ _ (⟨cell_stays hb56 o0, cell_stays hb56 y0, cell_stays hb56 y1⟩) (fun hHeld => ?_)
      clear hK K
      try simp only [Act.put, List.setIfInBounds_toArray, List.set_cons_zero, List.set_cons_succ]
      focus (refine wpAnyP_take (i := 7) (v := ?_) rfl (by kernel_rfl) (by kernel_rfl) (by kernel_rfl) (by kernel_rfl) (fun _ _ _ h => h) (Or.inl ⟨by rfl, ?_⟩) (by assumption) ?_; rotate_left 1; focus (intro wS hSw; (try dsimp only at hSw); go_simp <;> with_reducible rfl); try simp only [Act.put, List.setIfInBounds_toArray, List.set_cons_zero, List.set_cons_succ])
      refine wpAnyP_ready (rs := [8]) (by kernel_rfl) (by simp) (by kernel_rfl) ?_
      refine AllReadyP.cons rfl (fun K hK => ?_) ?_
      go_simp
      refine hK.out _ _ (⟨cell_stays hb56 o0, cell_stays hb56 y0, cell_stays hb56 y1⟩) (fun hHeld => ?_)
      clear hK K
      try simp only [Act.put, List.setIfInBounds_toArray, List.set_cons_zero, List.set_cons_succ]
      refine wpAnyP_ready (rs := [9]) (by kernel_rfl) (by simp) (by kernel_rfl) ?_
      refine AllReadyP.cons rfl (fun K hK => ?_) ?_
      focus (go_simp; go_at_call 26; refine calls_gen fun W9 e9 => ?_; have hb9 : Below w6.heap.size w6 W9 := (by rw [e9]; exact (by repeat (first | exact Below.refl _ _ | assumption | refine Below.drew ?_ | refine bel_al ?_ _ | refine bel_set ?_ (by omega) _ | refine bel_tr ?_ (by assumption)))); clear e9; refine (rRef_raw _ _ _ _ _ _ _ W9).mono ?_; rintro e w7 ⟨rfl, hg7⟩; have hb67 := bel_tr hb9 hg7.below; have hb57 := bel_tr hb56 hb67; clear hb9 hg7; go_wp2_with fail)
      refine hK.out _ _ (⟨cell_stays hb57 o0, cell_stays hb57 y0, cell_stays hb57 y1⟩) (fun hHeld => ?_)
      clear hK K
      try simp only [Act.put, List.setIfInBounds_toArray, List.set_cons_zero, List.set_cons_succ]
      focus (refine wpAnyP_take (i := 10) (v := ?_) rfl (by kernel_rfl) (by kernel_rfl) (by kernel_rfl) (by kernel_rfl) (fun _ _ _ h => h) (Or.inl ⟨by rfl, ?_⟩) (by assumption) ?_; rotate_left 1; focus (intro wS hSw; (try dsimp only at hSw); go_simp <;> with_reducible rfl); try simp only [Act.put, List.setIfInBounds_toArray, List.set_cons_zero, List.set_cons_succ])
      refine wpAnyP_ready (rs := [11]) (by kernel_rfl) (by simp) (by kernel_rfl) ?_
      refine AllReadyP.cons rfl (fun K hK => ?_) ?_
      go_simp
      refine hK.out _ _ (⟨cell_stays (bel_one _ _) (cell_stays hb57 o0), cell_stays (bel_one _ _) (cell_stays hb57 y0), cell_stays (bel_one _ _) (cell_stays hb57 y1)⟩) (fun hHeld => ?_)
      clear hK K
      try simp only [Act.put, List.setIfInBounds_toArray, List.set_cons_zero, List.set_cons_succ]
      refine wpAnyP_ready (rs := [12]) (by kernel_rfl) (by simp) (by kernel_rfl) ?_
      refine AllReadyP.cons rfl (fun K hK => ?_) ?_
      focus (refine step_app _ (by rfl) (.tmp 13) (.tmp 23) 22 (by rfl) (M + 1) 41 j0 _ 4 32 Tryd.underlying22 hj0 hy0 hy1 hy2 rfl (by decide) (.slice A4 k c4) k (cellsB ((ps.take k).map bindB)) (by rfl) (ownsRow_below (ownsRow_below HO5.out hb57) (by repeat (first | exact Below.refl _ _ | assumption | refine Below.drew ?_ | refine bel_al ?_ _ | refine bel_set ?_ (by omega) _ | refine bel_tr ?_ (by assumption)))) (some ⟨w7.heap.size, 0, none⟩) 1 1 [.int .i64 pv, .int .i64 ev.tm, .int .i64 ev.src, .int .i64 ev.sq] (by rfl) (Src.stays (src_new w7 [.int .i64 pv, .int .i64 ev.tm, .int .i64 ev.src, .int .i64 ev.sq] 41 1 4 rfl (by simp [Value.oneCell'])) (by repeat (first | exact Below.refl _ _ | assumption | refine Below.drew ?_ | refine bel_al ?_ _ | refine bel_set ?_ (by omega) _ | refine bel_tr ?_ (by assumption)))) (by unfold maxLen; omega) (by omega) (by have h2 := hb57.size; simp; omega) ?_; intro v8 w8 hown8 hg8 hloc8; obtain ⟨A8, c8, hv8⟩ := slice_own hown8; subst hv8; have hk5 : ∀ g, g < w5.heap.size → (∀ h, (Value.slice A4 k c4).ownBlock = some h → g ≠ h) → w8.heap[g]? = w5.heap[g]? := (fun g hg hne => ((hg8.block g (by have h2 := hb57.size; simp; omega) (fun e => hne g e.symm rfl)).trans (Below.heap_alloc w7 _ g (by have h2 := hb57.size; omega))).trans (hb57.block g hg)); have hk8 := hk5 M (by omega) (fun h hh => by have := (hGN.out h hh).1; omega); have hkX := hk5 X hX5 (fun h hh => hGX.out h hh); have f8 : w8.frozen? ⟨M, 0, none⟩ = false := (World.frozen?_of_block (a := ⟨M, 0, none⟩) hk8).trans of0; have o8 : w8.cell? ⟨M, 0, none⟩ = some (.slice A4 k c4) := (World.cell?_of_block (a := ⟨M, 0, none⟩) hk8).trans o0; have s80 : w8.cell? ⟨X, 0, none⟩ = some (.int .i64 pv) := (World.cell?_of_block (a := ⟨X, 0, none⟩) hkX).trans y0; have s81 : w8.cell? ⟨X, 1, none⟩ = some (.int .i64 (j : Int)) := (World.cell?_of_block (a := ⟨X, 1, none⟩) hkX).trans y1)
      refine hK.out _ _ (⟨o8, s80, s81⟩) (fun hHeld => ?_)
      clear hK K
      try simp only [Act.put, List.setIfInBounds_toArray, List.set_cons_zero, List.set_cons_succ]
      focus (refine wpAnyP_end (v := ?_) rfl (by kernel_rfl) (by kernel_rfl) (Or.inl ⟨by rfl, ?_⟩) ?_ (by kernel_rfl); rotate_left 1; focus (intro wS _; go_simp <;> with_reducible rfl); try simp only [Act.put, List.setIfInBounds_toArray, List.set_cons_zero, List.set_cons_succ])
      refine wpAny_last (i := 14) rfl (by kernel_rfl) (by kernel_rfl) (fun K hK => ?_)
      go_simp
      refine hK.out _ _ (NoPanic.normal ?_)
      clear hK K
      rotate_left 1
      exact AllReadyP.nil
      exact AllReadyP.nil
      exact AllReadyP.nil
      exact AllReadyP.nil
      exact AllReadyP.nil
      have hrow8 : w8.ownsRow (M + 1) 41 4 (.slice A8 (k + 1) c8) (k + 1) (cellsB ((ps.take (k + 1)).map bindB)) := by
        have hb : bindB (pv, j) = ⟨pv, ev.tm, ev.src, ev.sq⟩ := by
          unfold bindB
          simp only [List.getD_eq_getElem?_getD, HEV.out, Option.getD_some]
        rw [take_snoc' hget.out, List.map_append, cellsB_app, List.map_cons, List.map_nil, hb]
        exact hown8
      have HROW := Lib.hid hrow8
      have hbw8 : Below w.heap.size w w8 := (bel_tr HB5.out (bel_tr hb57 (bel_one w7 _))).trans (grown_below hg8 (by have h1 := HB5.out.size; have h2 := hb57.size; simp; omega) (fun g hg => by have := (hGN.out g hg).1; omega))
      have HBW := Lib.hid hbw8
      have hs8 : M + 1 ≤ w8.heap.size := by have h2 := hb57.size; have := hg8.size; simp at this; omega
      have HR8 := Lib.hid ((hk5 w.heap.size (by omega) (fun h hh => by have := (hGN.out h hh).1; omega)).trans HR5.out)
      clear hrow8 hbw8 hown8 hg8 hloc8 hk5 hkX hk8 s80 s81
      go_wp2_with fail
      go_roundw
      case rel =>
        refine ⟨k + 1, .slice A8 (k + 1) c8, by omega, by go_num, Lib.hid ⟨?_, ?_, ownsRow_kept HROW.out (fun g hg => Below.heap_setCell w8 ⟨M, 0, none⟩ _ g (by have := (ownsRow_lt HROW.out hg).1; simp only; omega)), bel_set HBW.out (by omega) _, by simpa using hs8, (Below.heap_setCell w8 ⟨M, 0, none⟩ _ w.heap.size (by simp only; omega)).trans HR8.out⟩⟩
        · simp [go_sem, o8]
        · simp [go_sem, f8]
      case measure => simp [intOf]; omega
    · have hk' : ¬ (k : Int) < (ps.length : Int) := by omega
      have hke : k = ps.length := by omega
      have hI' := hI.out
      rw [hke, List.take_length] at hI'
      have HI := Lib.hid hI'
      obtain ⟨A4, c4, hv4⟩ := slice_own hI'.2.2.1
      subst hv4
      have o0 := hI'.1
      have hbr' := HI.out.2.2.2.1
      have r0 : wr.cell? ⟨w.heap.size, 0, none⟩ = some (.slice none 0 0) := by rw [blk_cell HI.out.2.2.2.2.2]; rfl
      have rf := blk_frozen HI.out.2.2.2.2.2 0
      have hrow' := HI.out.2.2.1
      have h9 := ownsRow_kept (w' := wr.setCell ⟨w.heap.size, 0, none⟩ (.slice A4 ps.length c4)) hrow' (fun g hg => Below.heap_setCell wr ⟨w.heap.size, 0, none⟩ _ g (by have := (ownsRow_lt hrow' hg).1; simp only; omega))
      have HM := Lib.hid (sl_of_means (bnds_mean _ (ps.map bindB)) (Below.refl _ _) (by rwa [List.length_map]))
      have rr := World.cell?_setCell_same' wr ⟨w.heap.size, 0, none⟩ (.slice A4 ps.length c4) (by rw [r0]; rfl)
      have HRR := Lib.hid rr
      clear hI hI' hke hbr h9 rr hrow'
      go_wp2_with fail
      have rr := HRR.out
      exact bodyPost_ret (v := matV (.slice A4 ps.length c4)) (by simp [results, Tryd.results11, matV, go_sem, rr]) rfl ⟨_, rfl, HM.out, bel_set hbr' (by omega) _⟩
end Go.Proofs.YtclpglgigpjfoaaDoor
