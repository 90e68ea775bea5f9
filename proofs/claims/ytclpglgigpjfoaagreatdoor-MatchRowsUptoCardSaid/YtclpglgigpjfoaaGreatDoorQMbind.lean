/- The examples of the law: its events, its matches. -/
import Derived.Test.YtclpglgigpjfoaaGreatDoorQKown
import Derived.Test.YtclpglgigpjfoaaGreatDoorQMev
import Derived.Test.YtclpglgigpjfoaaGreatDoorQReg
import Derived.Test.YtclpglgigpjfoaaGreatDoorQLdata
import Derived.OwnWalk
namespace Go.Proofs.YtclpglgigpjfoaaGreatDoor
open Go.RowKit

def evs3 : List Evt := [⟨0, 1, 0, 3, []⟩, ⟨0, 0, 0, 5, []⟩, ⟨0, 2, 0, 5, []⟩]
theorem at_app {P : Program} (w : World) {o : Oper} {a : Act} {K : Act → World → Prop} {Q : Exit → Act → World → Prop} (s x : Operand) (t : TypeId)
    (ho : o.op = .call { callee := .builtin .append, args := #[s, x], argTypes := #[t, t] })
    (base : Nat) (e : TypeId) (i : TypeInfo) (z : Value) (size bytes : Nat) (ht : P.underlying t = some (.slice e)) (hi : P.info? e = some i) (hz : i.zero = some z)
    (hsize : i.size = size) (hby : i.bytes = bytes) (hzs : z.cells.size = size) (hsz : 0 < size)
    (v : Value) (n : Nat) (xs : List Value) (hs : a.eval s = v) (hown : w.ownsRow base e size v n xs)
    (A : Option Addr) (m c : Nat) (news : List Value) (hx : a.eval x = .slice A m c) (hsrc : Src w A m size news)
    (h63 : n + m ≤ maxLen) (hbytes : (n + m) * bytes ≤ 140737488355328) (hbase : base ≤ w.heap.size)
    (h : ∀ v' w', w'.ownsRow base e size v' (n + m) (xs ++ news) → w.grownBy w' v.ownBlock → (v'.ownBlock = v.ownBlock ∨ v'.ownBlock = some w.heap.size) → K (a.put o.dst v') w') :
    Oper.wp P o a w K Q := by
  obtain ⟨v', w', hrun, h2, h3, h4⟩ := run_app (P := P) w base t o.type e i z size bytes ht hi hz hsize hby hzs hsz v n xs hown A m c news hsrc h63 hbytes hbase
  unfold Oper.wp execOp
  simp only [ho, resolve, invoke, builtin, Sem.run_bind, Sem.run_pure, Result.andThen_ok, List.map_toArray, List.map_cons, List.map_nil, hs, hx, hrun]
  exact h v' w' h2 h3 h4
/-- the cells of the events of the examples -/
def EvCells (W : World) (G : Nat) : Prop := ∀ (j : Nat) (e : Evt), evs3[j]? = some e → W.cell? ⟨G, j * 5, none⟩ = some (.int .i64 e.src) ∧ W.cell? ⟨G, j * 5 + 1, none⟩ = some (.int .i64 e.sq) ∧ W.cell? ⟨G, j * 5 + 2, none⟩ = some (.int .i64 e.ty) ∧ W.cell? ⟨G, j * 5 + 3, none⟩ = some (.int .i64 e.tm) ∧ W.cell? ⟨G, j * 5 + 4, none⟩ = some (.slice none 0 0)
theorem evCells_mk {w : World} {b : Nat}
    (h : ∀ (i : Nat) (u : Value), ([Value.int .i64 0, .int .i64 1, .int .i64 0, .int .i64 3, .slice none 0 0, .int .i64 0, .int .i64 0, .int .i64 0, .int .i64 5, .slice none 0 0, .int .i64 0, .int .i64 2, .int .i64 0, .int .i64 5, .slice none 0 0] : List Value)[i]? = some u → w.cell? ⟨b, i, none⟩ = some u) : EvCells w b := by
  intro k x hk
  match k, hk with
  | 0, hk => simp [evs3] at hk; subst hk; exact ⟨h 0 _ rfl, h 1 _ rfl, h 2 _ rfl, h 3 _ rfl, h 4 _ rfl⟩
  | 1, hk => simp [evs3] at hk; subst hk; exact ⟨h 5 _ rfl, h 6 _ rfl, h 7 _ rfl, h 8 _ rfl, h 9 _ rfl⟩
  | 2, hk => simp [evs3] at hk; subst hk; exact ⟨h 10 _ rfl, h 11 _ rfl, h 12 _ rfl, h 13 _ rfl, h 14 _ rfl⟩
  | k + 3, hk => simp [evs3] at hk
theorem evs3_vals {j : Nat} {e : Evt} (h : evs3[j]? = some e) : e.vals = [] := by
  match j, h with
  | 0, h => simp [evs3] at h; subst h; rfl
  | 1, h => simp [evs3] at h; subst h; rfl
  | 2, h => simp [evs3] at h; subst h; rfl
  | k + 3, h => simp [evs3] at h
theorem EvCells.is {w : World} {b : Nat} (h : EvCells w b) : IsEvts w (.slice (some ⟨b, 0, none⟩) 3 3) evs3 := by
  refine ⟨_, 3, rfl, Nat.le_refl _, by decide, fun k x hk => ⟨b, 0, rfl, ?_⟩⟩
  obtain ⟨h0, h1, h2, h3, h4⟩ := h k x hk
  rw [Nat.zero_add]
  exact ⟨_, by rw [evs3_vals hk]; exact Sl.nil _ _ _ _ _ (Nat.zero_le _), h0, h1, h2, h3, h4⟩
theorem events_any (w : World) : Calls Tryz.prog 47 #[] w fun e W => e = .returned (.slice (some ⟨w.heap.size, 0, none⟩) 3 3) ∧ EvCells W w.heap.size ∧ Below w.heap.size w W := by
  go_enter Tryz.func47, Tryz.ntmps47
  go_wp2
  go_ret
  exact ⟨rfl, evCells_mk (fun i u hu => by rw [blk_cell (heap_alloc_new w _)]; exact hu), (by repeat (first | exact Below.refl _ _ | assumption | refine Below.drew ?_ | refine bel_al ?_ _ | refine bel_set ?_ (by omega) _ | refine bel_tr ?_ (by assumption)))⟩
def zeroEv : Evt := ⟨0, 0, 0, 0, []⟩
/-- the binding of a pair: a variable, and the number of an event -/
def bindB (p : Int × Nat) : Bnd := ⟨p.1, (evs3.getD p.2 zeroEv).tm, (evs3.getD p.2 zeroEv).src, (evs3.getD p.2 zeroEv).sq⟩
def PairAt (w : World) (b p : Nat) (x : Int × Nat) : Prop := w.cell? ⟨b, p, none⟩ = some (.int .i64 x.1) ∧ w.cell? ⟨b, p + 1, none⟩ = some (.int .i64 (x.2 : Int))
abbrev IsPairs (w : World) (v : Value) (l : List (Int × Nat)) : Prop := Sl PairAt 2 w v l
def cellsB (l : List Bnd) : List Value := l.flatMap fun x => [.int .i64 x.v, .int .i64 x.t, .int .i64 x.s, .int .i64 x.n]
theorem cellsB_app (l m : List Bnd) : cellsB (l ++ m) = cellsB l ++ cellsB m := List.flatMap_append
theorem bnds_mean (w : World) : ∀ l : List Bnd, Means BndAt 4 w (cellsB l) l
  | [] => Means.nil
  | x :: l => by
    have h1 : Means BndAt 4 w [.int .i64 x.v, .int .i64 x.t, .int .i64 x.s, .int .i64 x.n] [x] := ⟨rfl, by simp [Value.oneCell'], fun W b o _ hc k y hk => by
      cases k with
      | zero =>
        simp at hk; subst hk
        have c0 := hc 0 _ rfl
        have c1 := hc 1 _ rfl
        have c2 := hc 2 _ rfl
        have c3 := hc 3 _ rfl
        exact ⟨by simpa using c0, by simpa using c1, by simpa using c2, by simpa using c3⟩
      | succ k => simp at hk⟩
    exact h1.app (bnds_mean w l)
def BindRet (w : World) (l : List Bnd) (e : Ending) (W : World) : Prop := ∃ v, e = .returned (matV v) ∧ IsBnds W v l ∧ Below w.heap.size w W

set_option maxRecDepth 100000 in
set_option maxHeartbeats 4000000 in
theorem bind_any (ps : List (Int × Nat)) (v : Value) (w : World) (hl : IsPairs w v ps) (hps : ∀ p ∈ ps, p.2 < 3) (hlen : ps.length ≤ 100) :
    Calls Tryz.prog 46 #[v] w (BindRet w (ps.map bindB)) := by
  obtain ⟨A, c, rfl, h1, h2, hat⟩ := hl
  have hn := len_i64 h1 h2
  have HL := Lib.hid hat
  have HPS := Lib.hid hps
  obtain ⟨j0, hj0, hy0, hy1, hy2⟩ := info_parts info_bnd
  clear hat h1 h2 hps
  go_enter Tryz.func46, Tryz.ntmps46
  go_wp2_with fail
  refine wp_gen fun w0 e0 => ?_
  obtain ⟨M, hM⟩ : ∃ M, w.heap.size + 1 = M := ⟨_, rfl⟩
  have hb0 : Below w.heap.size w w0 := by rw [e0]; exact (by repeat (first | exact Below.refl _ _ | assumption | refine Below.drew ?_ | refine bel_al ?_ _ | refine bel_set ?_ (by omega) _ | refine bel_tr ?_ (by assumption)))
  have hcM : w0.heap[M]? = some (.cells [Value.slice none 0 0].toArray 24 (0, 0)) := by rw [e0, ← hM]; exact heap_new' _ _ _ (by simp)
  have hcR : w0.heap[w.heap.size]? = some (.cells [Value.slice none 0 0].toArray 24 (0, 0)) := by rw [e0]; exact (Below.heap_alloc _ _ _ (by simp)).trans (heap_alloc_new w _)
  have hsM : M + 1 = w0.heap.size := by rw [e0, ← hM]; simp
  have hwM : w.heap.size < M := by omega
  rw [hM]
  have HB0 := Lib.hid hb0
  have HCM := Lib.hid hcM
  have HCR := Lib.hid hcR
  have HSM := Lib.hid hsM
  clear e0 hb0 hcM hcR hM hsM
  go_loopw [8] (fun i wr => ∃ (k : Nat) (u : Value), k ≤ ps.length ∧ i = .int .i64 k ∧ Hid (wr.cell? ⟨M, 0, none⟩ = some u ∧ wr.frozen? ⟨M, 0, none⟩ = false ∧ wr.ownsRow (M + 1) 79 4 u k (cellsB ((ps.take k).map bindB)) ∧ Below w.heap.size w wr ∧ M + 1 ≤ wr.heap.size ∧ wr.heap[w.heap.size]? = some (.cells [Value.slice none 0 0].toArray 24 (0, 0)))) (fun i _ => ps.length - (intOf i).toNat)
  case atStart => exact ⟨0, .slice none 0 0, Nat.zero_le _, rfl, Lib.hid ⟨by rw [blk_cell HCM.out]; rfl, blk_frozen HCM.out 0, ⟨by simp [cellsB], .inl ⟨rfl, rfl⟩⟩, HB0.out, Nat.le_of_eq HSM.out, HCR.out⟩⟩
  case round =>
    obtain ⟨k, u, hk, rfl, hI⟩ := hrel
    have hbr := hI.out.2.2.2.1
    have hMr := hI.out.2.2.2.2.1
    by_cases hlt : k < ps.length
    · have hk' : (k : Int) < (ps.length : Int) := by omega
      obtain ⟨b, o, rfl, c0, c1⟩ := HL.out k ps[k] (List.getElem?_eq_getElem hlt)
      replace c0 := cell_stays hbr c0
      replace c1 := cell_stays hbr c1
      have hget := Lib.hid (List.getElem?_eq_getElem hlt)
      have hx3 := HPS.out ps[k] (List.getElem_mem hlt)
      obtain ⟨x, hx⟩ : ∃ x, x = ps[k] := ⟨_, rfl⟩
      rw [← hx] at hget c0 c1 hx3
      clear hx
      obtain ⟨pv, j⟩ := x
      simp only at c0 c1 hx3
      obtain ⟨ev, hev⟩ : ∃ ev, evs3[j]? = some ev := ⟨_, List.getElem?_eq_getElem (by simpa [evs3] using hx3)⟩
      have HEV := Lib.hid hev
      have hj3 : (j : Int) < 3 := by omega
      obtain ⟨A4, c4, hv4⟩ := slice_own hI.out.2.2.1
      subst hv4
      have o0 := hI.out.1
      have of0 := hI.out.2.1
      clear hev
      go_wp2_with fail
      refine wp_gen fun w5 e5 => ?_
      obtain ⟨X, hX⟩ : ∃ X, wr.heap.size = X := ⟨_, rfl⟩
      have hb5 : Below wr.heap.size wr w5 := by rw [e5]; exact (by repeat (first | exact Below.refl _ _ | assumption | refine Below.drew ?_ | refine bel_al ?_ _ | refine bel_set ?_ (by omega) _ | refine bel_tr ?_ (by assumption)))
      have y0 : w5.cell? ⟨X, 0, none⟩ = some (.int .i64 pv) := by rw [e5, ← hX]; go_simp
      have y1 : w5.cell? ⟨X, 1, none⟩ = some (.int .i64 (j : Int)) := by rw [e5, ← hX]; go_simp
      have hMX : M < X := by omega
      have hX5 : X < w5.heap.size := by rw [e5, ← hX]; simp
      replace o0 := cell_stays hb5 o0
      replace of0 : w5.frozen? ⟨M, 0, none⟩ = false := (World.frozen?_of_block (a := ⟨M, 0, none⟩) (hb5.block M (by omega))).trans of0
      have HO5 := Lib.hid (ownsRow_below hI.out.2.2.1 hb5)
      have HB5 := Lib.hid (bel_tr hbr hb5)
      have HR5 := Lib.hid ((hb5.block w.heap.size (by omega)).trans hI.out.2.2.2.2.2)
      have hGN : Hid (∀ g, (Value.slice A4 k c4).ownBlock = some g → M + 1 ≤ g ∧ g < w5.heap.size) := Lib.hid fun g h => ownsRow_lt HO5.out h
      have hGX : Hid (∀ g, (Value.slice A4 k c4).ownBlock = some g → X ≠ g) := Lib.hid fun g h => by have := (ownsRow_lt hI.out.2.2.1 h).2; omega
      rw [hX]
      clear e5 hb5 c0 c1 hX
      refine wp_region_noPanic ?_
      refine wp_region_P (fun W => W.cell? ⟨M, 0, none⟩ = some (.slice A4 k c4) ∧ W.cell? ⟨X, 0, none⟩ = some (.int .i64 pv) ∧ W.cell? ⟨X, 1, none⟩ = some (.int .i64 (j : Int))) 13 (by kernel_rfl) (⟨o0, y0, y1⟩) (fun hHeld => ?_)
      focus (refine wpAnyP_take (i := 0) (v := ?_) rfl (by kernel_rfl) (by kernel_rfl) (by kernel_rfl) (by kernel_rfl) (fun _ _ _ h => h) (Or.inl ⟨by rfl, ?_⟩) (by assumption) ?_; rotate_left 1; focus (intro wS hSw; (try dsimp only at hSw); go_simp <;> with_reducible rfl); try simp only [Act.put, List.setIfInBounds_toArray, List.set_cons_zero, List.set_cons_succ])
      focus (refine wpAnyP_take (i := 1) (v := ?_) rfl (by kernel_rfl) (by kernel_rfl) (by kernel_rfl) (by kernel_rfl) (fun _ _ _ h => h) (Or.inl ⟨by rfl, ?_⟩) (by assumption) ?_; rotate_left 1; focus (intro wS hSw; (try dsimp only at hSw); go_simp <;> with_reducible rfl); try simp only [Act.put, List.setIfInBounds_toArray, List.set_cons_zero, List.set_cons_succ])
      focus (refine wpAnyP_take (i := 2) (v := ?_) rfl (by kernel_rfl) (by kernel_rfl) (by kernel_rfl) (by kernel_rfl) (fun _ _ _ h => h) (Or.inl ⟨by rfl, ?_⟩) (by assumption) ?_; rotate_left 1; focus (intro wS hSw; (try dsimp only at hSw); go_simp <;> with_reducible rfl); try simp only [Act.put, List.setIfInBounds_toArray, List.set_cons_zero, List.set_cons_succ])
      focus (refine wpAnyP_take (i := 3) (v := ?_) rfl (by kernel_rfl) (by kernel_rfl) (by kernel_rfl) (by kernel_rfl) (fun _ _ _ h => h) (Or.inl ⟨by rfl, ?_⟩) (by assumption) ?_; rotate_left 1; focus (intro wS hSw; (try dsimp only at hSw); go_simp <;> with_reducible rfl); try simp only [Act.put, List.setIfInBounds_toArray, List.set_cons_zero, List.set_cons_succ])
      focus (refine wpAnyP_take (i := 5) (v := ?_) rfl (by kernel_rfl) (by kernel_rfl) (by kernel_rfl) (by kernel_rfl) (fun _ _ _ h => h) (Or.inl ⟨by rfl, ?_⟩) (by assumption) ?_; rotate_left 1; focus (intro wS hSw; (try dsimp only at hSw); go_simp <;> with_reducible rfl); try simp only [Act.put, List.setIfInBounds_toArray, List.set_cons_zero, List.set_cons_succ])
      focus (refine wpAnyP_take (i := 6) (v := ?_) rfl (by kernel_rfl) (by kernel_rfl) (by kernel_rfl) (by kernel_rfl) (fun _ _ _ h => h) (Or.inl ⟨by rfl, ?_⟩) (by assumption) ?_; rotate_left 1; focus (intro wS hSw; (try dsimp only at hSw); go_simp <;> with_reducible rfl); try simp only [Act.put, List.setIfInBounds_toArray, List.set_cons_zero, List.set_cons_succ])
      refine wpAnyP_ready (rs := [4]) (by kernel_rfl) (by simp) (by kernel_rfl) ?_
      refine AllReadyP.cons rfl (fun K hK => ?_) ?_
      focus (go_simp; go_at_call 47; refine calls_gen fun W8 e8 => ?_; have hb8 : Below w5.heap.size w5 W8 := (by rw [e8]; exact (by repeat (first | exact Below.refl _ _ | assumption | refine Below.drew ?_ | refine bel_al ?_ _ | refine bel_set ?_ (by omega) _ | refine bel_tr ?_ (by assumption)))); clear e8; refine (events_any W8).mono ?_; rintro e w6 ⟨rfl, hev6, hb6⟩; have hb56 := bel_tr hb8 hb6; obtain ⟨g0, g1, g2, g3, g4⟩ := hev6 j ev HEV.out; have hgl : W8.heap.size < w6.heap.size := World.block_lt_of_cell? w6 ⟨W8.heap.size, _, none⟩ g0; generalize W8.heap.size = G at g0 g1 g2 g3 g4 hgl hb6 ⊢; clear hb8 hb6 hev6; go_wp2_with fail)
      refine hK.out _ _ (⟨cell_stays hb56 o0, cell_stays hb56 y0, cell_stays hb56 y1⟩) (fun hHeld => ?_)
      clear hK K
      try simp only [Act.put, List.setIfInBounds_toArray, List.set_cons_zero, List.set_cons_succ]
      focus (refine wpAnyP_take (i := 7) (v := ?_) rfl (by kernel_rfl) (by kernel_rfl) (by kernel_rfl) (by kernel_rfl) (fun _ _ _ h => h) (Or.inl ⟨by rfl, ?_⟩) (by assumption) ?_; rotate_left 1; focus (intro wS hSw; (try dsimp only at hSw); go_simp <;> with_reducible rfl); try simp only [Act.put, List.setIfInBounds_toArray, List.set_cons_zero, List.set_cons_succ])
      refine wpAnyP_ready (rs := [8]) (by kernel_rfl) (by simp) (by kernel_rfl) ?_
      refine AllReadyP.cons rfl (fun K hK => ?_) ?_
      go_simp
      refine hK.out _ _ (⟨cell_stays hb56 o0, cell_stays hb56 y0, cell_stays hb56 y1⟩) (fun hHeld => ?_)
      clear hK K
      try simp only [Act.put, List.setIfInBounds_toArray, List.set_cons_zero, List.set_cons_succ]
      refine wpAnyP_ready (rs := [9]) (by kernel_rfl) (by simp) (by kernel_rfl) ?_
      refine AllReadyP.cons rfl (fun K hK => ?_) ?_
      focus (go_simp; go_at_call 37; refine calls_gen fun W9 e9 => ?_; have hb9 : Below w6.heap.size w6 W9 := (by rw [e9]; exact (by repeat (first | exact Below.refl _ _ | assumption | refine Below.drew ?_ | refine bel_al ?_ _ | refine bel_set ?_ (by omega) _ | refine bel_tr ?_ (by assumption)))); clear e9; refine (rRef_raw _ _ _ _ _ _ _ W9).mono ?_; rintro e w7 ⟨rfl, hg7⟩; have hb67 := bel_tr hb9 hg7.below; have hb57 := bel_tr hb56 hb67; clear hb9 hg7; go_wp2_with fail)
      refine hK.out _ _ (⟨cell_stays hb57 o0, cell_stays hb57 y0, cell_stays hb57 y1⟩) (fun hHeld => ?_)
      clear hK K
      try simp only [Act.put, List.setIfInBounds_toArray, List.set_cons_zero, List.set_cons_succ]
      focus (refine wpAnyP_take (i := 10) (v := ?_) rfl (by kernel_rfl) (by kernel_rfl) (by kernel_rfl) (by kernel_rfl) (fun _ _ _ h => h) (Or.inl ⟨by rfl, ?_⟩) (by assumption) ?_; rotate_left 1; focus (intro wS hSw; (try dsimp only at hSw); go_simp <;> with_reducible rfl); try simp only [Act.put, List.setIfInBounds_toArray, List.set_cons_zero, List.set_cons_succ])
      refine wpAnyP_ready (rs := [11]) (by kernel_rfl) (by simp) (by kernel_rfl) ?_
      refine AllReadyP.cons rfl (fun K hK => ?_) ?_
      go_simp
      refine hK.out _ _ (⟨cell_stays (bel_one _ _) (cell_stays hb57 o0), cell_stays (bel_one _ _) (cell_stays hb57 y0), cell_stays (bel_one _ _) (cell_stays hb57 y1)⟩) (fun hHeld => ?_)
      clear hK K
      try simp only [Act.put, List.setIfInBounds_toArray, List.set_cons_zero, List.set_cons_succ]
      refine wpAnyP_ready (rs := [12]) (by kernel_rfl) (by simp) (by kernel_rfl) ?_
      refine AllReadyP.cons rfl (fun K hK => ?_) ?_
      focus (refine step_app _ (by rfl) (.tmp 13) (.tmp 23) 22 (by rfl) (M + 1) 79 j0 _ 4 32 Tryz.underlying22 hj0 hy0 hy1 hy2 rfl (by decide) (.slice A4 k c4) k (cellsB ((ps.take k).map bindB)) (by rfl) (ownsRow_below (ownsRow_below HO5.out hb57) (by repeat (first | exact Below.refl _ _ | assumption | refine Below.drew ?_ | refine bel_al ?_ _ | refine bel_set ?_ (by omega) _ | refine bel_tr ?_ (by assumption)))) (some ⟨w7.heap.size, 0, none⟩) 1 1 [.int .i64 pv, .int .i64 ev.tm, .int .i64 ev.src, .int .i64 ev.sq] (by rfl) (Src.stays (src_new w7 [.int .i64 pv, .int .i64 ev.tm, .int .i64 ev.src, .int .i64 ev.sq] 79 1 4 rfl (by simp [Value.oneCell'])) (by repeat (first | exact Below.refl _ _ | assumption | refine Below.drew ?_ | refine bel_al ?_ _ | refine bel_set ?_ (by omega) _ | refine bel_tr ?_ (by assumption)))) (by unfold maxLen; omega) (by omega) (by have h2 := hb57.size; simp; omega) ?_; intro v8 w8 hown8 hg8 hloc8; obtain ⟨A8, c8, hv8⟩ := slice_own hown8; subst hv8; have hk5 : ∀ g, g < w5.heap.size → (∀ h, (Value.slice A4 k c4).ownBlock = some h → g ≠ h) → w8.heap[g]? = w5.heap[g]? := (fun g hg hne => ((hg8.block g (by have h2 := hb57.size; simp; omega) (fun e => hne g e.symm rfl)).trans (Below.heap_alloc w7 _ g (by have h2 := hb57.size; omega))).trans (hb57.block g hg)); have hk8 := hk5 M (by omega) (fun h hh => by have := (hGN.out h hh).1; omega); have hkX := hk5 X hX5 (fun h hh => hGX.out h hh); have f8 : w8.frozen? ⟨M, 0, none⟩ = false := (World.frozen?_of_block (a := ⟨M, 0, none⟩) hk8).trans of0; have o8 : w8.cell? ⟨M, 0, none⟩ = some (.slice A4 k c4) := (World.cell?_of_block (a := ⟨M, 0, none⟩) hk8).trans o0; have s80 : w8.cell? ⟨X, 0, none⟩ = some (.int .i64 pv) := (World.cell?_of_block (a := ⟨X, 0, none⟩) hkX).trans y0; have s81 : w8.cell? ⟨X, 1, none⟩ = some (.int .i64 (j : Int)) := (World.cell?_of_block (a := ⟨X, 1, none⟩) hkX).trans y1)
      refine hK.out _ _ (⟨o8, s80, s81⟩) (fun hHeld => ?_)
      clear hK K
      try simp only [Act.put, List.setIfInBounds_toArray]
      focus (refine wpAnyP_end (v := ?_) rfl (by kernel_rfl) (by kernel_rfl) (Or.inl ⟨by rfl, ?_⟩) ?_ (by kernel_rfl); rotate_left 1; focus (intro wS _; go_simp <;> with_reducible rfl); try simp only [Act.put, List.setIfInBounds_toArray, List.set_cons_zero, List.set_cons_succ])
      refine wpAny_last (i := 14) rfl (by kernel_rfl) (by kernel_rfl) (fun K hK => ?_)
      go_simp
      refine hK.out _ _ (NoPanic.normal ?_)
      clear hK K
      rotate_left 1
      exact AllReadyP.nil
      exact AllReadyP.nil
      exact AllReadyP.nil
      exact AllReadyP.nil
      exact AllReadyP.nil
      have hrow8 : w8.ownsRow (M + 1) 79 4 (.slice A8 (k + 1) c8) (k + 1) (cellsB ((ps.take (k + 1)).map bindB)) := by
        have hb : bindB (pv, j) = ⟨pv, ev.tm, ev.src, ev.sq⟩ := by
          unfold bindB
          simp only [List.getD_eq_getElem?_getD, HEV.out, Option.getD_some]
        rw [take_snoc' hget.out, List.map_append, cellsB_app, List.map_cons, List.map_nil, hb]
        exact hown8
      have HROW := Lib.hid hrow8
      have hbw8 : Below w.heap.size w w8 := (bel_tr HB5.out (bel_tr hb57 (bel_one w7 _))).trans (grown_below hg8 (by have h1 := HB5.out.size; have h2 := hb57.size; simp; omega) (fun g hg => by have := (hGN.out g hg).1; omega))
      have HBW := Lib.hid hbw8
      have hs8 : M + 1 ≤ w8.heap.size := by have h2 := hb57.size; have := hg8.size; simp at this; omega
      have HR8 := Lib.hid ((hk5 w.heap.size (by omega) (fun h hh => by have := (hGN.out h hh).1; omega)).trans HR5.out)
      clear hrow8 hbw8 hown8 hg8 hloc8 hk5 hkX hk8 s80 s81
      go_wp2_with fail
      go_roundw
      case rel =>
        refine ⟨k + 1, .slice A8 (k + 1) c8, by omega, by go_num, Lib.hid ⟨?_, ?_, ownsRow_kept HROW.out (fun g hg => Below.heap_setCell w8 ⟨M, 0, none⟩ _ g (by have := (ownsRow_lt HROW.out hg).1; simp only; omega)), bel_set HBW.out (by omega) _, by simpa using hs8, (Below.heap_setCell w8 ⟨M, 0, none⟩ _ w.heap.size (by simp only; omega)).trans HR8.out⟩⟩
        · simp [go_sem, o8]
        · simp [go_sem, f8]
      case measure => simp [intOf]; omega
    · have hk' : ¬ (k : Int) < (ps.length : Int) := by omega
      have hke : k = ps.length := by omega
      have hI' := hI.out
      rw [hke, List.take_length] at hI'
      have HI := Lib.hid hI'
      obtain ⟨A4, c4, hv4⟩ := slice_own hI'.2.2.1
      subst hv4
      have o0 := hI'.1
      have hbr' := HI.out.2.2.2.1
      have r0 : wr.cell? ⟨w.heap.size, 0, none⟩ = some (.slice none 0 0) := by rw [blk_cell HI.out.2.2.2.2.2]; rfl
      have rf := blk_frozen HI.out.2.2.2.2.2 0
      have hrow' := HI.out.2.2.1
      have h9 := ownsRow_kept (w' := wr.setCell ⟨w.heap.size, 0, none⟩ (.slice A4 ps.length c4)) hrow' (fun g hg => Below.heap_setCell wr ⟨w.heap.size, 0, none⟩ _ g (by have := (ownsRow_lt hrow' hg).1; simp only; omega))
      have HM := Lib.hid (sl_of_means (bnds_mean _ (ps.map bindB)) (Below.refl _ _) (by rwa [List.length_map]))
      have rr := World.cell?_setCell_same' wr ⟨w.heap.size, 0, none⟩ (.slice A4 ps.length c4) (by rw [r0]; rfl)
      have HRR := Lib.hid rr
      clear hI hI' hke hbr h9 rr hrow'
      go_wp2_with fail
      have rr := HRR.out
      exact bodyPost_ret (v := matV (.slice A4 ps.length c4)) (by simp [results, Tryz.results46, matV, go_sem, rr]) rfl ⟨_, rfl, HM.out, bel_set hbr' (by omega) _⟩
end Go.Proofs.YtclpglgigpjfoaaGreatDoor
namespace Go.Proofs.YtclpglgigpjfoaaGreatDoor
open Go.RowKit

theorem vlAt_movable : Movable VlAt 3 := fun w b p x ⟨h0, h1, h2⟩ =>
  ⟨[.int .i64 x.kind, .int .i64 x.num, .string x.text], rfl, by simp [Value.oneCell'], fun j u hj => by
    match j, hj with
    | 0, hj => simp at hj; subst hj; exact h0
    | 1, hj => simp at hj; subst hj; exact h1
    | 2, hj => simp at hj; subst hj; exact h2
    | j + 3, hj => simp at hj, fun W b' p' _ hc => ⟨hc 0 _ rfl, hc 1 _ rfl, hc 2 _ rfl⟩⟩
theorem sl_keptR {α : Type} {R : World → Nat → Nat → α → Prop} {sz : Nat} (hR : ∀ w w' b p x, w'.heap[b]? = w.heap[b]? → R w b p x → R w' b p x) (hlt : ∀ w b p x, R w b p x → b < w.heap.size)
    {w w' : World} {v : Value} {l : List α} (h : Sl R sz w v l) (hk : l ≠ [] → ∀ g, g < w.heap.size → v.ownBlock = some g → w'.heap[g]? = w.heap[g]?) : Sl R sz w' v l := by
  obtain ⟨A, c, rfl, h1, h2, h3⟩ := h
  refine ⟨A, c, rfl, h1, h2, fun k x hx => ?_⟩
  obtain ⟨b, o, rfl, hr⟩ := h3 k x hx
  exact ⟨b, o, rfl, hR _ _ _ _ _ (hk (fun e => by rw [e] at hx; simp at hx) b (hlt _ _ _ _ hr) rfl) hr⟩
theorem vlAt_local : ∀ w w' b p x, w'.heap[b]? = w.heap[b]? → VlAt w b p x → VlAt w' b p x := fun _w _w' b p _x h ⟨h0, h1, h2⟩ =>
  ⟨(World.cell?_of_block (a := ⟨b, p, none⟩) h).trans h0, (World.cell?_of_block (a := ⟨b, p + 1, none⟩) h).trans h1, (World.cell?_of_block (a := ⟨b, p + 2, none⟩) h).trans h2⟩
theorem vlAt_lt : ∀ w b p x, VlAt w b p x → b < w.heap.size := fun w b p _ ⟨h0, _⟩ => World.block_lt_of_cell? w ⟨b, p, none⟩ h0
theorem vls_kept {w w' : World} {v : Value} {l : List Vl} (h : IsVls w v l) (hk : l ≠ [] → ∀ g, g < w.heap.size → v.ownBlock = some g → w'.heap[g]? = w.heap[g]?) : IsVls w' v l := sl_keptR vlAt_local vlAt_lt h hk
theorem vls_lt {w : World} {v : Value} {l : List Vl} (h : IsVls w v l) (hl : l ≠ []) {g : Nat} (hg : v.ownBlock = some g) : g < w.heap.size := by
  obtain ⟨A, c, rfl, h1, h2, h3⟩ := h
  cases l with
  | nil => exact absurd rfl hl
  | cons x l =>
    obtain ⟨b, o, rfl, hr⟩ := h3 0 x rfl
    have : b = g := by simpa [Value.ownBlock] using hg
    subst this
    exact vlAt_lt _ _ _ _ hr

abbrev EV := Evt × Value
def evCells (l : List EV) : List Value := l.flatMap fun e => [.int .i64 e.1.src, .int .i64 e.1.sq, .int .i64 e.1.ty, .int .i64 e.1.tm, e.2]
theorem evCells_app (l m : List EV) : evCells (l ++ m) = evCells l ++ evCells m := List.flatMap_append
theorem evCells_mean {w : World} : ∀ {l : List EV}, (∀ e ∈ l, IsVls w e.2 e.1.vals) → Means EvtAt 5 w (evCells l) (l.map (·.1))
  | [], _ => Means.nil
  | e :: l, h => by
    have he := h e (List.mem_cons_self ..)
    have h1 : Means EvtAt 5 w [.int .i64 e.1.src, .int .i64 e.1.sq, .int .i64 e.1.ty, .int .i64 e.1.tm, e.2] [e.1] := ⟨rfl, by simp [Value.oneCell']; exact sl_oneCell he, fun W b o hb hc k y hk => by
      cases k with
      | zero =>
        simp at hk; subst hk
        have c0 := hc 0 _ rfl
        have c1 := hc 1 _ rfl
        have c2 := hc 2 _ rfl
        have c3 := hc 3 _ rfl
        have c4 := hc 4 _ rfl
        exact ⟨e.2, he.stays vlAt_stays hb, by simpa using c0, by simpa using c1, by simpa using c2, by simpa using c3, by simpa using c4⟩
      | succ k => simp at hk⟩
    exact h1.app (evCells_mean fun x hx => h x (List.mem_cons_of_mem _ hx))
/-- block g holds a row of events for each variable, each in memory of its own from block B on; their values lie in older memory, below block A, or from B on -/
structure VarsW (A B g : Nat) (w : World) (vs : List Value) (es : List (List EV)) : Prop where
  len : vs.length = es.length
  low : A ≤ g ∧ g < B
  blk : w.heap[g]? = some (.cells vs.toArray 42 (0, 0))
  row : ∀ (k : Nat) (v : Value) (l : List EV), vs[k]? = some v → es[k]? = some l → w.ownsRow B 71 5 v l.length (evCells l)
  apart : ∀ (j k : Nat) (u v : Value), vs[j]? = some u → vs[k]? = some v → j ≠ k → ∀ h, u.ownBlock = some h → v.ownBlock ≠ some h
  vals : ∀ (k : Nat) (l : List EV), es[k]? = some l → ∀ e ∈ l, IsVls w e.2 e.1.vals ∧ (e.1.vals ≠ [] → ∀ h, e.2.ownBlock = some h → (h < A ∨ B ≤ h) ∧ ∀ v ∈ vs, v.ownBlock ≠ some h)
section
variable {A B g : Nat} {w w' : World} {vs : List Value} {es : List (List EV)}
theorem VarsW.grow (h : VarsW A B g w vs es) (hb : Below w.heap.size w w') : VarsW A B g w' vs es :=
  ⟨h.len, h.low, (hb.block g (blk_lt h.blk)).trans h.blk, fun k v l h1 h2 => ownsRow_below (h.row k v l h1 h2) hb, h.apart, fun k l h1 e he => ⟨(h.vals k l h1 e he).1.stays vlAt_stays hb, (h.vals k l h1 e he).2⟩⟩
/-- a store into a block between the old memory and the rows -/
theorem VarsW.set (h : VarsW A B g w vs es) {R : Nat} (hR : A ≤ R ∧ R < B) (hne : R ≠ g) (i : Nat) (u : Value) : VarsW A B g (w.setCell ⟨R, i, none⟩ u) vs es :=
  ⟨h.len, h.low, (Below.heap_setCell w ⟨R, i, none⟩ u g (Ne.symm hne)).trans h.blk, fun k v l h1 h2 => ownsRow_kept (h.row k v l h1 h2) fun b hb => Below.heap_setCell w ⟨R, i, none⟩ u b (by have := (ownsRow_lt (h.row k v l h1 h2) hb).1; simp only; omega), h.apart,
    fun k l h1 e he => ⟨vls_kept (h.vals k l h1 e he).1 fun hn b _ hb => Below.heap_setCell w ⟨R, i, none⟩ u b (by have := ((h.vals k l h1 e he).2 hn b hb).1; simp only; omega), (h.vals k l h1 e he).2⟩⟩
theorem getD_of {α : Type} {l : List α} {k : Nat} {x : α} (h : l[k]? = some x) : k < l.length := (List.getElem?_eq_some_iff.1 h).1
theorem VarsW.app (h : VarsW A B g w vs es) {k : Nat} {v v7 u : Value} {l : List EV} {x : Evt} {w7 : World} (hv : vs[k]? = some v) (hl : es[k]? = some l) (_hB : B ≤ w.heap.size)
    (hown : w7.ownsRow B 71 5 v7 (l.length + 1) (evCells l ++ [.int .i64 x.src, .int .i64 x.sq, .int .i64 x.ty, .int .i64 x.tm, u])) (hg : w.grownBy w7 v.ownBlock) (hloc : v7.ownBlock = v.ownBlock ∨ v7.ownBlock = some w.heap.size)
    (hu : IsVls w u x.vals) (hun : x.vals ≠ [] → ∀ h, u.ownBlock = some h → (h < A ∨ B ≤ h) ∧ ∀ v ∈ vs, v.ownBlock ≠ some h) :
    VarsW A B g (w7.setCell ⟨g, k, none⟩ v7) (vs.set k v7) (es.set k (l ++ [(x, u)])) := by
  have hkl := getD_of hv
  have hkl2 := getD_of hl
  have hgl := blk_lt h.blk
  have hrow := h.row k v l hv hl
  have hvg : v.ownBlock ≠ some g := fun e => by have := (ownsRow_lt hrow e).1; have := h.low.2; omega
  have hblk7 : w7.heap[g]? = some (.cells vs.toArray 42 (0, 0)) := (hg.block g hgl (fun e => hvg e.symm)).trans h.blk
  have hv7 : ∀ b, v7.ownBlock = some b → B ≤ b ∧ b < w7.heap.size := fun b hb => ownsRow_lt hown hb
  -- the blocks that are kept
  have hk : ∀ b, b < w.heap.size → b ≠ g → v.ownBlock ≠ some b → (w7.setCell ⟨g, k, none⟩ v7).heap[b]? = w.heap[b]? := fun b hb hbg hbv =>
    (Below.heap_setCell w7 ⟨g, k, none⟩ v7 b hbg).trans (hg.block b hb (fun e => hbv e.symm))
  have hold : ∀ (j : Nat) (u' : Value), vs[j]? = some u' → ∀ b, u'.ownBlock = some b → B ≤ b ∧ b < w.heap.size := fun j u' hj b hb => by
    have hj2 : j < es.length := by rw [← h.len]; exact getD_of hj
    exact ownsRow_lt (h.row j u' es[j] hj (List.getElem?_eq_getElem hj2)) hb
  have hnew : ∀ (j : Nat) (u' : Value), j ≠ k → vs[j]? = some u' → ∀ b, u'.ownBlock = some b → v7.ownBlock ≠ some b := fun j u' hjk hj b hb e => by
    rcases hloc with e2 | e2
    · rw [e2] at e; exact h.apart j k u' v hj hv hjk b hb e
    · rw [e2] at e; injection e with e; have := (hold j u' hj b hb).2; omega
  have hval : ∀ (y : EV), IsVls w y.2 y.1.vals → (y.1.vals ≠ [] → ∀ b, y.2.ownBlock = some b → (b < A ∨ B ≤ b) ∧ ∀ v ∈ vs, v.ownBlock ≠ some b) →
      IsVls (w7.setCell ⟨g, k, none⟩ v7) y.2 y.1.vals ∧ (y.1.vals ≠ [] → ∀ b, y.2.ownBlock = some b → (b < A ∨ B ≤ b) ∧ ∀ v ∈ vs.set k v7, v.ownBlock ≠ some b) := fun y h1 h2 => by
    refine ⟨vls_kept h1 fun hne b hb hyb => hk b hb (by have := (h2 hne b hyb).1; have := h.low; omega) ((h2 hne b hyb).2 v (List.mem_of_getElem? hv)), fun hne b hyb => ⟨(h2 hne b hyb).1, fun z hz e => ?_⟩⟩
    rcases List.mem_or_eq_of_mem_set hz with hz | rfl
    · exact (h2 hne b hyb).2 z hz e
    · rcases hloc with e2 | e2
      · rw [e2] at e; exact (h2 hne b hyb).2 v (List.mem_of_getElem? hv) e
      · rw [e2] at e; injection e with e; have := vls_lt h1 hne hyb; omega
  refine ⟨by rw [List.length_set, List.length_set]; exact h.len, h.low, ?_, ?_, ?_, ?_⟩
  · have := blk_set hblk7 k v7; exact this
  · intro j u' m hj hm
    by_cases hjk : k = j
    · subst hjk
      rw [List.getElem?_set_self hkl] at hj
      rw [List.getElem?_set_self hkl2] at hm
      injection hj with hj; injection hm with hm
      subst hj hm
      rw [List.length_append, evCells_app]
      exact ownsRow_kept hown fun b hb => Below.heap_setCell w7 ⟨g, k, none⟩ v7 b (by have := (hv7 b hb).1; have := h.low.2; simp only; omega)
    · rw [List.getElem?_set_ne hjk] at hj hm
      exact ownsRow_kept (h.row j u' m hj hm) fun b hb => hk b (hold j u' hj b hb).2 (by have := (hold j u' hj b hb).1; have := h.low.2; omega) (fun e => h.apart j k u' v hj hv (Ne.symm hjk) b hb e)
  · intro i j a b hi hj hij c hc e
    by_cases hik : k = i
    · subst hik
      rw [List.getElem?_set_self hkl] at hi
      injection hi with hi
      subst hi
      rw [List.getElem?_set_ne hij] at hj
      exact hnew j b (Ne.symm hij) hj c e hc
    · rw [List.getElem?_set_ne hik] at hi
      by_cases hjk : k = j
      · subst hjk
        rw [List.getElem?_set_self hkl] at hj
        injection hj with hj
        subst hj
        exact hnew i a hij hi c hc e
      · rw [List.getElem?_set_ne hjk] at hj
        exact h.apart i j a b hi hj hij c hc e
  · intro j m hm y hy
    by_cases hjk : k = j
    · subst hjk
      rw [List.getElem?_set_self hkl2] at hm
      injection hm with hm
      subst hm
      rcases List.mem_append.1 hy with hy | hy
      · exact hval y (h.vals k l hl y hy).1 (h.vals k l hl y hy).2
      · simp at hy
        subst hy
        exact hval (x, u) hu hun
    · rw [List.getElem?_set_ne hjk] at hm
      exact hval y (h.vals j m hm y hy).1 (h.vals j m hm y hy).2
theorem VarsW.is (h : VarsW A B g w vs es) (hm : es.length ≤ maxLen) : IsVars w (.slice (some ⟨g, 0, none⟩) es.length es.length) (es.map fun l => l.map (·.1)) := by
  refine ⟨_, es.length, by rw [List.length_map], by rw [List.length_map]; exact Nat.le_refl _, hm, fun k x hk => ⟨g, 0, rfl, ?_⟩⟩
  rw [List.getElem?_map] at hk
  obtain ⟨l, hl, rfl⟩ := Option.map_eq_some_iff.1 hk
  have hkv : k < vs.length := by rw [h.len]; exact getD_of hl
  have hv := List.getElem?_eq_getElem hkv
  refine ⟨vs[k], sl_of_means (evCells_mean fun e he => (h.vals k l hl e he).1) (Below.refl _ _) (by have := h.row k vs[k] l hv hl; rwa [List.length_map]), ?_⟩
  rw [blk_cell h.blk, Nat.zero_add, Nat.mul_one]
  exact hv
/-- n empty rows -/
theorem varsW_made {n : Nat} (hb : w.heap[g]? = some (.cells (List.replicate n (Value.slice none 0 0)).toArray 42 (0, 0))) (hB : A ≤ g ∧ g < B) : VarsW A B g w (List.replicate n (.slice none 0 0)) (List.replicate n []) := by
  have hr : ∀ (k : Nat) (v : Value), (List.replicate n (Value.slice none 0 0))[k]? = some v → v = .slice none 0 0 := fun k v h => (List.mem_replicate.1 (List.mem_of_getElem? h)).2
  refine ⟨by simp, hB, hb, fun k v l h1 h2 => ?_, fun j k u v h1 h2 _ h e => ?_, fun k l h1 e he => ?_⟩
  · rw [hr k v h1, (List.mem_replicate.1 (List.mem_of_getElem? h2)).2]
    exact ⟨rfl, .inl ⟨rfl, rfl⟩⟩
  · rw [hr j u h1] at e; simp [Value.ownBlock] at e
  · rw [(List.mem_replicate.1 (List.mem_of_getElem? h1)).2] at he; simp at he
end

theorem info_vl : (Tryz.prog.info? 88).map (fun i => (i.zero, i.size, i.bytes)) = some (some (.agg #[.int .i64 0, .int .i64 0, .string ByteArray.empty]), 3, 32) := by kernel_rfl
theorem info_evt : (Tryz.prog.info? 71).map (fun i => (i.zero, i.size, i.bytes)) = some (some (.agg #[.int .i64 0, .int .i64 0, .int .i64 0, .int .i64 0, .slice none 0 0]), 5, 56) := by kernel_rfl
theorem info_evts : (Tryz.prog.info? 42).map (fun i => (i.zero, i.size, i.bytes)) = some (some (.slice none 0 0), 1, 24) := by kernel_rfl
theorem cloneVals (A : Option Addr) (n c : Nat) (cs : List Value) (w : World) (hs : Src w A n 3 cs) (hn : n ≤ 1048576) :
    Calls Tryz.prog 64 #[.slice A n c] w (OwnRet 88 3 n cs w) := by
  obtain ⟨i0, hi, hz0, hz1, hz2⟩ := info_parts info_vl
  have he := fun W => Lib.run_eql_slice_nil W 69 88 A n c 0 0 Tryz.underlying69
  cases A with
  | none =>
    have h0 : n = 0 := by
      rcases Nat.eq_zero_or_pos n with h | h
      · exact h
      · obtain ⟨b, o, hA, _⟩ := hs.2.2 h; cases hA
    subst h0
    have hcs : cs = [] := List.eq_nil_of_length_eq_zero (by simpa using hs.1)
    subst hcs
    clear hs
    go_enter Tryz.func64, Tryz.ntmps64
    go_wp2
    go_ret
    exact ⟨_, rfl, ⟨by simp, .inl ⟨rfl, rfl⟩⟩, Below.refl _ _⟩
  | some ad =>
    have HS := Lib.hid hs
    clear hs
    go_enter Tryz.func64, Tryz.ntmps64
    go_wp2_with (at_builtin; refine wpList_app _ rfl (.tmp 5) (.tmp 6) 69 rfl w.heap.size 88 i0 _ 3 32 Tryz.underlying69 hi hz0 hz1 hz2 rfl (by decide) (.slice (some ⟨w.heap.size, 0, none⟩) 0 0) 0 [] rfl (ownsRow_empty w _ _ _ (Nat.le_refl _)) (some ad) n c cs rfl (HS.out.stays (bel_al (Below.refl _ _) _)) (by unfold maxLen; omega) (by omega) (by simp) ?_; intro v1 w1 hown hg hloc)
    go_ret
    exact ⟨_, rfl, by simpa using hown, (bel_al (Below.refl _ _) _).trans (grown_below hg (by simp) (fun g h => Nat.le_of_eq (by simpa [Value.ownBlock] using h)))⟩
def NewVls (B : Nat) (w : World) (v : Value) (l : List Vl) : Prop := IsVls w v l ∧ ∀ g, v.ownBlock = some g → B ≤ g ∧ g < w.heap.size
theorem cloneV_any (l : List Vl) (v : Value) (w : World) (hl : IsVls w v l) (hn : l.length ≤ 1048576) :
    Calls Tryz.prog 64 #[v] w fun e w' => ∃ v', e = .returned v' ∧ NewVls w.heap.size w' v' l ∧ Below w.heap.size w w' := by
  obtain ⟨A, c, rfl, h1, h2, hat⟩ := hl
  obtain ⟨cs, hm, hs, -⟩ := means_of_sl vlAt_movable ⟨A, c, rfl, h1, h2, hat⟩
  refine (cloneVals A l.length c cs w hs hn).mono ?_
  rintro e w3 ⟨v3, rfl, ho3, hb3⟩
  exact ⟨v3, rfl, ⟨sl_of_means hm hb3 ho3, fun g hg => ownsRow_lt ho3 hg⟩, hb3⟩
end Go.Proofs.YtclpglgigpjfoaaGreatDoor
