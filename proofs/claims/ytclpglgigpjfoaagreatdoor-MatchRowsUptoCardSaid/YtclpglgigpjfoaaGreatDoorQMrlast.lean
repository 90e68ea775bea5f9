/- The reference's last. -/
import Derived.Test.YtclpglgigpjfoaaGreatDoorQMevx
namespace Go.Proofs.YtclpglgigpjfoaaGreatDoor
open Go.RowKit

def LastRet (w : World) : Option Evt → Ending → World → Prop
  | none, e, W => e = .returned (.tuple #[.agg #[.int .i64 0, .int .i64 0, .int .i64 0, .int .i64 0, .slice none 0 0], .bool false]) ∧ Below w.heap.size w W
  | some x, e, W => ∃ A c, e = .returned (.tuple #[.agg #[.int .i64 x.src, .int .i64 x.sq, .int .i64 x.ty, .int .i64 x.tm, .slice A x.vals.length c], .bool true]) ∧ IsVls W (.slice A x.vals.length c) x.vals ∧ Below w.heap.size w W
theorem bel_5 {w W : World} (h : Below w.heap.size w W) {b : Nat} (hb : w.heap.size ≤ b) (x0 x1 x2 x3 x4 : Value) : Below w.heap.size w (((((W.setCell ⟨b, 0, none⟩ x0).setCell ⟨b, 1, none⟩ x1).setCell ⟨b, 2, none⟩ x2).setCell ⟨b, 3, none⟩ x3).setCell ⟨b, 4, none⟩ x4) :=
  bel_set (bel_set (bel_set (bel_set (bel_set h hb _) hb _) hb _) hb _) hb _
/-- the events of a variable lie where the environment lies -/
theorem revs_at (vs : List (List Evt)) (v : Value) (k : Int) (w : World) (hv : IsVars w v vs) : ∃ A c, IsEvts w (.slice A (evsAt vs k).length c) (evsAt vs k) ∧
    ∀ W, Below w.heap.size w W → Calls Tryz.prog 176 #[.agg #[v], .int .i64 k] W fun e w' => e = .returned (.slice A (evsAt vs k).length c) ∧ Below W.heap.size W w' := by
  obtain ⟨A, c, rfl, h1, h2, hat⟩ := hv
  have hn63 := len_i64 h1 h2
  have HL := Lib.hid hat
  clear hat h1 h2
  by_cases c1 : k < 0
  · have e : evsAt vs k = [] := if_pos (.inl c1)
    rw [e]
    refine ⟨none, 0, Sl.nil _ _ _ _ _ (Nat.zero_le _), fun W hW => ?_⟩
    go_enter Tryz.func176, Tryz.ntmps176
    go_wp2_with fail
    go_ret
    exact ⟨rfl, (by repeat (first | exact Below.refl _ _ | assumption | refine Below.drew ?_ | refine bel_al ?_ _ | refine bel_set ?_ (by omega) _ | refine bel_tr ?_ (by assumption)))⟩
  by_cases c2 : (vs.length : Int) ≤ k
  · have e : evsAt vs k = [] := if_pos (.inr c2)
    rw [e]
    refine ⟨none, 0, Sl.nil _ _ _ _ _ (Nat.zero_le _), fun W hW => ?_⟩
    go_enter Tryz.func176, Tryz.ntmps176
    go_wp2_with fail
    go_ret
    exact ⟨rfl, (by repeat (first | exact Below.refl _ _ | assumption | refine Below.drew ?_ | refine bel_al ?_ _ | refine bel_set ?_ (by omega) _ | refine bel_tr ?_ (by assumption)))⟩
  obtain ⟨n, rfl⟩ : ∃ n : Nat, k = n := ⟨k.toNat, by omega⟩
  have hlt : n < vs.length := by omega
  have e : evsAt vs n = vs[n] := by unfold evsAt; rw [if_neg (by omega)]; simp [List.getD_eq_getElem?_getD, hlt]
  obtain ⟨b, o, rfl, v', hv', hc⟩ := HL.out n vs[n] (List.getElem?_eq_getElem hlt)
  rw [e]
  have HV := Lib.hid hv'
  obtain ⟨A', c', rfl, -⟩ := hv'
  refine ⟨A', c', HV.out, fun W hW => ?_⟩
  have hbl : b < w.heap.size := World.block_lt_of_cell? w ⟨b, _, none⟩ hc
  have hbn : b < W.heap.size := by have := hW.size; omega
  have hbn' : b ≠ W.heap.size := by omega
  rw [Nat.mul_one] at hc
  have hc' := cell_stays hW hc
  clear e hc
  go_enter Tryz.func176, Tryz.ntmps176
  go_wp2_with fail
  go_ret
  exact ⟨rfl, (by repeat (first | exact Below.refl _ _ | assumption | refine Below.drew ?_ | refine bel_al ?_ _ | refine bel_set ?_ (by omega) _ | refine bel_tr ?_ (by assumption)))⟩
set_option maxRecDepth 100000 in
set_option maxHeartbeats 4000000 in
theorem rlast_any (vs : List (List Evt)) (v : Value) (k own : Int) (ev : Evt) (u : Value) (w : World) (hv : IsVars w v vs) (hu : IsVls w u ev.vals) :
    Calls Tryz.prog 178 #[.agg #[v], .int .i64 k, .int .i64 own, evtV ev u] w (LastRet w (lastR (evsAt vs k) (decide (k = own)) ev)) := by
  have HV := Lib.hid hv
  have HU := Lib.hid hu
  obtain ⟨A, c, rfl, -⟩ := hv
  obtain ⟨Au, cu, rfl, -⟩ := hu
  obtain ⟨A1, c1, hl, hEV⟩ := revs_at vs _ k w HV.out
  have HEV := Lib.hid hEV
  obtain ⟨evs, hevs⟩ : ∃ e, evsAt vs k = e := ⟨_, rfl⟩
  rw [hevs] at HEV hl ⊢
  clear hevs hEV
  unfold evtV
  by_cases hown : k = own
  · have hne : (k == own) = true := by simpa using hown
    rw [decide_eq_true hown, lastR_t]
    clear hown
    go_enter Tryz.func178, Tryz.ntmps178
    go_wp2_with fail
    exact bodyPost_ret (v := .tuple #[.agg #[.int .i64 ev.src, .int .i64 ev.sq, .int .i64 ev.ty, .int .i64 ev.tm, .slice Au ev.vals.length cu], .bool true]) (by simp [results, Tryz.results178, go_sem]) rfl ⟨_, _, rfl, HU.out.stays vlAt_stays (by repeat (first | exact Below.refl _ _ | assumption | refine Below.drew ?_ | refine bel_al ?_ _ | refine bel_set ?_ (by omega) _ | refine bel_tr ?_ (by assumption))), (by repeat (first | exact Below.refl _ _ | assumption | refine Below.drew ?_ | refine bel_al ?_ _ | refine bel_set ?_ (by omega) _ | refine bel_tr ?_ (by assumption)))⟩
  have hne : (k == own) = false := by simpa using hown
  rw [decide_eq_false hown, lastR_f]
  obtain ⟨R, hRl⟩ : ∃ r, evs.getLast? = r := ⟨_, rfl⟩
  rw [hRl]
  have HRL := Lib.hid hRl
  clear hown hRl
  go_enter Tryz.func178, Tryz.ntmps178
  go_wp2_with fail
  refine calls_gen fun W9 e9 => ?_
  have hB : W9.heap[w.heap.size + 1 + 1]? = some (.cells [.int .i64 0, .int .i64 0, .int .i64 0, .int .i64 0, .slice none 0 0].toArray 71 (0, 0)) := by rw [e9]; repeat (first | exact heap_new' _ _ _ (by simp) | apply heap_old)
  have hb9 : Below w.heap.size w W9 := by rw [e9]; exact (by repeat (first | exact Below.refl _ _ | assumption | refine Below.drew ?_ | refine bel_al ?_ _ | refine bel_set ?_ (by omega) _ | refine bel_tr ?_ (by assumption)))
  clear e9
  refine (HEV.out _ hb9).mono ?_
  rintro e w1 ⟨rfl, hb1⟩
  have hB1 := heap_stays hb1 hB
  obtain ⟨z0, z1, z2, z3, z4⟩ := blk5 hB1
  have f0 := blk_frozen hB1 0
  have f1 := blk_frozen hB1 1
  have f2 := blk_frozen hB1 2
  have f3 := blk_frozen hB1 3
  have f4 := blk_frozen hB1 4
  have HW1 := Lib.hid (bel_tr hb9 hb1)
  have HL := Lib.hid hl
  have hn63 : (evs.length : Int) ≤ 9223372036854775807 := by obtain ⟨A', c', e, h1, h2, h3⟩ := hl; exact len_i64 h1 h2
  clear hB hB1 hb9 hb1 hl
  by_cases hz : evs.length = 0
  · have hz' : ((evs.length : Int) == 0) = true := by simp [hz]
    obtain rfl : none = R := by have h := HRL.out; rw [List.eq_nil_of_length_eq_zero hz, List.getLast?_nil] at h; exact h
    clear hz
    go_wp2_with fail
    exact bodyPost_ret (v := .tuple #[.agg #[.int .i64 0, .int .i64 0, .int .i64 0, .int .i64 0, .slice none 0 0], .bool false]) (by simp [results, Tryz.results178, go_sem, cell_set_self, z0, z1, z2, z3, z4]) rfl ⟨rfl, bel_5 HW1.out (by omega) _ _ _ _ _⟩
  have hz' : ((evs.length : Int) == 0) = false := by simp [hz]
  have hw : wrap64 ((evs.length : Int) - 1) = ((evs.length - 1 : Nat) : Int) := by unfold wrap64; omega
  have hnl : ((evs.length - 1 : Nat) : Int) < (evs.length : Int) := by omega
  have hg : evs[evs.length - 1]? = some (evs[evs.length - 1]'(by omega)) := List.getElem?_eq_getElem _
  have hlast : evs.getLast? = some (evs[evs.length - 1]'(by omega)) := by rw [List.getLast?_eq_getElem?]; exact hg
  obtain ⟨la, hla⟩ : ∃ a, a = evs[evs.length - 1]'(by omega) := ⟨_, rfl⟩
  rw [← hla] at hg hlast
  obtain ⟨b, o, A', c', rfl, hbl, hvl, p0, p1, p2, p3, p4⟩ := evs_last HL.out hg
  have HVL := Lib.hid hvl
  obtain rfl : some la = R := hlast.symm.trans HRL.out
  have hbl1 : b < w1.heap.size := by have := HW1.out.size; omega
  replace p0 := cell_stays HW1.out p0
  replace p1 := cell_stays HW1.out p1
  replace p2 := cell_stays HW1.out p2
  replace p3 := cell_stays HW1.out p3
  replace p4 := cell_stays HW1.out p4
  clear hla hz hvl hg hlast
  go_wp2_with fail
  exact bodyPost_ret (v := .tuple #[.agg #[.int .i64 la.src, .int .i64 la.sq, .int .i64 la.ty, .int .i64 la.tm, .slice A' la.vals.length c'], .bool true]) (by simp [results, Tryz.results178, go_sem, cell_set_self, z0, z1, z2, z3, z4]) rfl
    ⟨_, _, rfl, HVL.out.stays vlAt_stays (bel_5 HW1.out (by omega) _ _ _ _ _), bel_5 HW1.out (by omega) _ _ _ _ _⟩
end Go.Proofs.YtclpglgigpjfoaaGreatDoor
namespace Go.Proofs.YtclpglgigpjfoaaGreatDoor
open Go.RowKit

set_option maxRecDepth 100000 in
set_option maxHeartbeats 16000000 in
theorem rapply_two (op : Int) (a b : Vl) (v : Value) (w : World) (hv : IsVls w v [a, b]) (hop : 5 ≤ op ∧ op ≤ 11) :
    Calls Tryz.prog 157 #[.int .i64 op, v] w fun e w' => e = .returned (vlV (applyR op a b)) ∧ Below w.heap.size w w' := by
  have HV := Lib.hid hv
  obtain ⟨A, c, rfl, -⟩ := hv
  obtain ⟨b1, o1, rfl, hbl, u0, u1, u2⟩ := vls_cells (l := [a, b]) HV.out (k := 0) (by simp)
  obtain ⟨b2, o2, hA2, -, t0, t1, t2⟩ := vls_cells (l := [a, b]) HV.out (k := 1) (by simp)
  injection hA2 with hA2
  injection hA2 with e1 e2
  subst e1 e2
  simp only [List.getD_cons_zero, List.getD_cons_succ, Nat.zero_mul, Nat.one_mul, Nat.add_zero] at u0 u1 u2 t0 t1 t2
  have hbX : b1 ≠ w.heap.size := by omega
  obtain ⟨rv, hrv⟩ : ∃ r, applyR op a b = r := ⟨_, rfl⟩
  rw [hrv]
  unfold vlV at *
  have hcase : op = 5 ∨ op = 6 ∨ op = 7 ∨ op = 8 ∨ op = 9 ∨ op = 10 ∨ op = 11 := by omega
  clear hop
  rcases hcase with rfl | rfl | rfl | rfl | rfl | rfl | rfl
  · obtain rfl : numV (IntKind.i64.wrap (a.num + b.num)) = rv := hrv
    go_enter Tryz.func157, Tryz.ntmps157
    go_wp2_with fail
    refine wp_gen fun w1 e1 => ?_
    have hB : VBox w1 w.heap.size := ⟨.int .i64 0, .int .i64 0, .string ⟨#[]⟩, by rw [e1]; repeat (first | exact heap_new' _ _ _ (by simp) | apply heap_old)⟩
    have hb1 : Below w.heap.size w w1 := by rw [e1]; exact (by repeat (first | exact Below.refl _ _ | assumption | refine Below.drew ?_ | refine bel_al ?_ _ | refine bel_set ?_ (by omega) _ | refine bel_tr ?_ (by assumption)))
    have u1 := cell_stays hb1 u1
    have t1 := cell_stays hb1 t1
    clear e1
    have HW1 := Lib.hid hb1
    obtain ⟨B, hBe⟩ : ∃ B, B = w.heap.size := ⟨_, rfl⟩
    have hBw : w.heap.size ≤ B := by omega
    rw [← hBe] at hB hbX ⊢
    clear hBe hb1
    have mkS : ∀ W, w1.grownBy W (some B) → VBox W B → (fun W => w1.grownBy W (some B) ∧ VBox W B ∧ W.cell? ⟨b1, o1 + 1, none⟩ = some (.int .i64 a.num) ∧ W.cell? ⟨b1, o1 + 3 + 1, none⟩ = some (.int .i64 b.num)) W := fun W hg hv => ⟨hg, hv, cell_grown hg u1 (fun e => hbX (by injection e with e; exact e.symm)), cell_grown hg t1 (fun e => hbX (by injection e with e; exact e.symm))⟩
    refine wp_region_noPanic ?_
    refine wp_region_held_drew (S := fun W => w1.grownBy W (some B) ∧ VBox W B ∧ W.cell? ⟨b1, o1 + 1, none⟩ = some (.int .i64 a.num) ∧ W.cell? ⟨b1, o1 + 3 + 1, none⟩ = some (.int .i64 b.num)) (by kernel_rfl) (mkS _ (below_grown (Below.refl _ _).drew _) (hB.stays (Below.refl _ _).drew)) (fun hHeld => ?_)
    generalize w1.drew = wD at hHeld ⊢
    focus (refine wpAnyH_take2 (i := 0) (fuel := 10) (L := (true :: false :: false :: false :: false :: false :: false :: false :: false :: false :: false :: []).toArray) (v := ?_) rfl rfl (by kernel_rfl) (by kernel_rfl) (by kernel_rfl) (by kernel_rfl) (fun _ _ _ h => h) (by kernel_rfl) ?_ (by assumption) ?_; rotate_left 1; (focus (intro wS hSw; (try dsimp only at hSw); go_simp <;> with_reducible rfl)); simp only [List.set_cons_zero, List.set_cons_succ])
    focus (refine wpAnyH_take2 (i := 1) (fuel := 9) (L := (true :: true :: false :: false :: false :: false :: false :: false :: false :: false :: false :: []).toArray) (v := ?_) rfl rfl (by kernel_rfl) (by kernel_rfl) (by kernel_rfl) (by kernel_rfl) (fun _ _ _ h => h) (by kernel_rfl) ?_ (by assumption) ?_; rotate_left 1; (focus (intro wS hSw; (try dsimp only at hSw); go_simp <;> with_reducible rfl)); simp only [List.set_cons_zero, List.set_cons_succ])
    focus (refine wpAnyH_take2 (i := 2) (fuel := 8) (L := (true :: true :: true :: false :: false :: false :: false :: false :: false :: false :: false :: []).toArray) (v := ?_) rfl rfl (by kernel_rfl) (by kernel_rfl) (by kernel_rfl) (by kernel_rfl) (fun _ _ _ h => h) (by kernel_rfl) ?_ (by assumption) ?_; rotate_left 1; (focus (intro wS hSw; (try dsimp only at hSw); go_simp <;> with_reducible rfl)); simp only [List.set_cons_zero, List.set_cons_succ])
    focus (refine wpAnyH_take2 (i := 3) (fuel := 7) (L := (true :: true :: true :: true :: false :: false :: false :: false :: false :: false :: false :: []).toArray) (v := ?_) rfl rfl (by kernel_rfl) (by kernel_rfl) (by kernel_rfl) (by kernel_rfl) (fun _ _ _ h => h) (by kernel_rfl) ?_ (by assumption) ?_; rotate_left 1; (focus (intro wS hSw; (try dsimp only at hSw); go_simp <;> with_reducible rfl)); simp only [List.set_cons_zero, List.set_cons_succ])
    focus (refine wpAnyH_take2 (i := 4) (fuel := 6) (L := (true :: true :: true :: true :: true :: false :: false :: false :: false :: false :: false :: []).toArray) (v := ?_) rfl rfl (by kernel_rfl) (by kernel_rfl) (by kernel_rfl) (by kernel_rfl) (fun _ _ _ h => h) (by kernel_rfl) ?_ (by assumption) ?_; rotate_left 1; (focus (intro wS hSw; (try dsimp only at hSw); go_simp <;> with_reducible rfl)); simp only [List.set_cons_zero, List.set_cons_succ])
    focus (refine wpAnyH_take2 (i := 5) (fuel := 5) (L := (true :: true :: true :: true :: true :: true :: false :: false :: false :: false :: false :: []).toArray) (v := ?_) rfl rfl (by kernel_rfl) (by kernel_rfl) (by kernel_rfl) (by kernel_rfl) (fun _ _ _ h => h) (by kernel_rfl) ?_ (by assumption) ?_; rotate_left 1; (focus (intro wS hSw; (try dsimp only at hSw); go_simp <;> with_reducible rfl)); simp only [List.set_cons_zero, List.set_cons_succ])
    focus (refine wpAnyH_take2 (i := 6) (fuel := 4) (L := (true :: true :: true :: true :: true :: true :: true :: false :: false :: false :: false :: []).toArray) (v := ?_) rfl rfl (by kernel_rfl) (by kernel_rfl) (by kernel_rfl) (by kernel_rfl) (fun _ _ _ h => h) (by kernel_rfl) ?_ (by assumption) ?_; rotate_left 1; (focus (intro wS hSw; (try dsimp only at hSw); go_simp <;> with_reducible rfl)); simp only [List.set_cons_zero, List.set_cons_succ])
    focus (refine wpAnyH_take2 (i := 7) (fuel := 3) (L := (true :: true :: true :: true :: true :: true :: true :: true :: false :: false :: false :: []).toArray) (v := ?_) rfl rfl (by kernel_rfl) (by kernel_rfl) (by kernel_rfl) (by kernel_rfl) (fun _ _ _ h => h) (by kernel_rfl) ?_ (by assumption) ?_; rotate_left 1; (focus (intro wS hSw; (try dsimp only at hSw); go_simp <;> with_reducible rfl)); simp only [List.set_cons_zero, List.set_cons_succ])
    focus (refine wpAnyH_take2 (i := 8) (fuel := 2) (L := (true :: true :: true :: true :: true :: true :: true :: true :: true :: false :: false :: []).toArray) (v := ?_) rfl rfl (by kernel_rfl) (by kernel_rfl) (by kernel_rfl) (by kernel_rfl) (fun _ _ _ h => h) (by kernel_rfl) ?_ (by assumption) ?_; rotate_left 1; (focus (intro wS hSw; (try dsimp only at hSw); go_simp <;> with_reducible rfl)); simp only [List.set_cons_zero, List.set_cons_succ])
    focus (refine wpAnyH_take2 (i := 9) (fuel := 1) (L := (true :: true :: true :: true :: true :: true :: true :: true :: true :: true :: false :: []).toArray) (v := ?_) rfl rfl (by kernel_rfl) (by kernel_rfl) (by kernel_rfl) (by kernel_rfl) (fun _ _ _ h => h) (by kernel_rfl) ?_ (by assumption) ?_; rotate_left 1; (focus (intro wS hSw; (try dsimp only at hSw); go_simp <;> with_reducible rfl)); simp only [List.set_cons_zero, List.set_cons_succ])
    refine wpAnyH_next (i := 10) (fuel := 0) (L := (true :: true :: true :: true :: true :: true :: true :: true :: true :: true :: true :: []).toArray) rfl (by kernel_rfl) (by kernel_rfl) (by kernel_rfl) (fun K hK => ?_)
    focus (obtain ⟨a0, b0, c0, z0, z1, z2, f0, f1, f2⟩ := hHeld.2.1.facts; go_simp)
    refine hK.out _ _ (mkS _ (grown_set3 hHeld.1 _ _ _) (hHeld.2.1.set3 _ _ _)) (fun hHeld => ?_)
    clear hK K
    refine wpAnyH_done (by kernel_rfl) (NoPanic.normal ?_) _
    rotate_left 1
    have HF := Lib.hid (grown_bel HW1.out hHeld.1 hBw)
    go_wp2_with fail
    exact bodyPost_ret (v := vlV (numV (IntKind.i64.wrap (a.num + b.num)))) (by simp [results, Tryz.results157, go_sem, cell_set_self, z0, z1, z2, vlV, numV]) rfl ⟨rfl, HF.out⟩
  · obtain rfl : numV (IntKind.i64.wrap (a.num - b.num)) = rv := hrv
    go_enter Tryz.func157, Tryz.ntmps157
    go_wp2_with fail
    refine wp_gen fun w1 e1 => ?_
    have hB : VBox w1 w.heap.size := ⟨.int .i64 0, .int .i64 0, .string ⟨#[]⟩, by rw [e1]; repeat (first | exact heap_new' _ _ _ (by simp) | apply heap_old)⟩
    have hb1 : Below w.heap.size w w1 := by rw [e1]; exact (by repeat (first | exact Below.refl _ _ | assumption | refine Below.drew ?_ | refine bel_al ?_ _ | refine bel_set ?_ (by omega) _ | refine bel_tr ?_ (by assumption)))
    have u1 := cell_stays hb1 u1
    have t1 := cell_stays hb1 t1
    clear e1
    have HW1 := Lib.hid hb1
    obtain ⟨B, hBe⟩ : ∃ B, B = w.heap.size := ⟨_, rfl⟩
    have hBw : w.heap.size ≤ B := by omega
    rw [← hBe] at hB hbX ⊢
    clear hBe hb1
    have mkS : ∀ W, w1.grownBy W (some B) → VBox W B → (fun W => w1.grownBy W (some B) ∧ VBox W B ∧ W.cell? ⟨b1, o1 + 1, none⟩ = some (.int .i64 a.num) ∧ W.cell? ⟨b1, o1 + 3 + 1, none⟩ = some (.int .i64 b.num)) W := fun W hg hv => ⟨hg, hv, cell_grown hg u1 (fun e => hbX (by injection e with e; exact e.symm)), cell_grown hg t1 (fun e => hbX (by injection e with e; exact e.symm))⟩
    refine wp_region_noPanic ?_
    refine wp_region_held_drew (S := fun W => w1.grownBy W (some B) ∧ VBox W B ∧ W.cell? ⟨b1, o1 + 1, none⟩ = some (.int .i64 a.num) ∧ W.cell? ⟨b1, o1 + 3 + 1, none⟩ = some (.int .i64 b.num)) (by kernel_rfl) (mkS _ (below_grown (Below.refl _ _).drew _) (hB.stays (Below.refl _ _).drew)) (fun hHeld => ?_)
    generalize w1.drew = wD at hHeld ⊢
    focus (refine wpAnyH_take2 (i := 0) (fuel := 10) (L := (true :: false :: false :: false :: false :: false :: false :: false :: false :: false :: false :: []).toArray) (v := ?_) rfl rfl (by kernel_rfl) (by kernel_rfl) (by kernel_rfl) (by kernel_rfl) (fun _ _ _ h => h) (by kernel_rfl) ?_ (by assumption) ?_; rotate_left 1; (focus (intro wS hSw; (try dsimp only at hSw); go_simp <;> with_reducible rfl)); simp only [List.set_cons_zero, List.set_cons_succ])
    focus (refine wpAnyH_take2 (i := 1) (fuel := 9) (L := (true :: true :: false :: false :: false :: false :: false :: false :: false :: false :: false :: []).toArray) (v := ?_) rfl rfl (by kernel_rfl) (by kernel_rfl) (by kernel_rfl) (by kernel_rfl) (fun _ _ _ h => h) (by kernel_rfl) ?_ (by assumption) ?_; rotate_left 1; (focus (intro wS hSw; (try dsimp only at hSw); go_simp <;> with_reducible rfl)); simp only [List.set_cons_zero, List.set_cons_succ])
    focus (refine wpAnyH_take2 (i := 2) (fuel := 8) (L := (true :: true :: true :: false :: false :: false :: false :: false :: false :: false :: false :: []).toArray) (v := ?_) rfl rfl (by kernel_rfl) (by kernel_rfl) (by kernel_rfl) (by kernel_rfl) (fun _ _ _ h => h) (by kernel_rfl) ?_ (by assumption) ?_; rotate_left 1; (focus (intro wS hSw; (try dsimp only at hSw); go_simp <;> with_reducible rfl)); simp only [List.set_cons_zero, List.set_cons_succ])
    focus (refine wpAnyH_take2 (i := 3) (fuel := 7) (L := (true :: true :: true :: true :: false :: false :: false :: false :: false :: false :: false :: []).toArray) (v := ?_) rfl rfl (by kernel_rfl) (by kernel_rfl) (by kernel_rfl) (by kernel_rfl) (fun _ _ _ h => h) (by kernel_rfl) ?_ (by assumption) ?_; rotate_left 1; (focus (intro wS hSw; (try dsimp only at hSw); go_simp <;> with_reducible rfl)); simp only [List.set_cons_zero, List.set_cons_succ])
    focus (refine wpAnyH_take2 (i := 4) (fuel := 6) (L := (true :: true :: true :: true :: true :: false :: false :: false :: false :: false :: false :: []).toArray) (v := ?_) rfl rfl (by kernel_rfl) (by kernel_rfl) (by kernel_rfl) (by kernel_rfl) (fun _ _ _ h => h) (by kernel_rfl) ?_ (by assumption) ?_; rotate_left 1; (focus (intro wS hSw; (try dsimp only at hSw); go_simp <;> with_reducible rfl)); simp only [List.set_cons_zero, List.set_cons_succ])
    focus (refine wpAnyH_take2 (i := 5) (fuel := 5) (L := (true :: true :: true :: true :: true :: true :: false :: false :: false :: false :: false :: []).toArray) (v := ?_) rfl rfl (by kernel_rfl) (by kernel_rfl) (by kernel_rfl) (by kernel_rfl) (fun _ _ _ h => h) (by kernel_rfl) ?_ (by assumption) ?_; rotate_left 1; (focus (intro wS hSw; (try dsimp only at hSw); go_simp <;> with_reducible rfl)); simp only [List.set_cons_zero, List.set_cons_succ])
    focus (refine wpAnyH_take2 (i := 6) (fuel := 4) (L := (true :: true :: true :: true :: true :: true :: true :: false :: false :: false :: false :: []).toArray) (v := ?_) rfl rfl (by kernel_rfl) (by kernel_rfl) (by kernel_rfl) (by kernel_rfl) (fun _ _ _ h => h) (by kernel_rfl) ?_ (by assumption) ?_; rotate_left 1; (focus (intro wS hSw; (try dsimp only at hSw); go_simp <;> with_reducible rfl)); simp only [List.set_cons_zero, List.set_cons_succ])
    focus (refine wpAnyH_take2 (i := 7) (fuel := 3) (L := (true :: true :: true :: true :: true :: true :: true :: true :: false :: false :: false :: []).toArray) (v := ?_) rfl rfl (by kernel_rfl) (by kernel_rfl) (by kernel_rfl) (by kernel_rfl) (fun _ _ _ h => h) (by kernel_rfl) ?_ (by assumption) ?_; rotate_left 1; (focus (intro wS hSw; (try dsimp only at hSw); go_simp <;> with_reducible rfl)); simp only [List.set_cons_zero, List.set_cons_succ])
    focus (refine wpAnyH_take2 (i := 8) (fuel := 2) (L := (true :: true :: true :: true :: true :: true :: true :: true :: true :: false :: false :: []).toArray) (v := ?_) rfl rfl (by kernel_rfl) (by kernel_rfl) (by kernel_rfl) (by kernel_rfl) (fun _ _ _ h => h) (by kernel_rfl) ?_ (by assumption) ?_; rotate_left 1; (focus (intro wS hSw; (try dsimp only at hSw); go_simp <;> with_reducible rfl)); simp only [List.set_cons_zero, List.set_cons_succ])
    focus (refine wpAnyH_take2 (i := 9) (fuel := 1) (L := (true :: true :: true :: true :: true :: true :: true :: true :: true :: true :: false :: []).toArray) (v := ?_) rfl rfl (by kernel_rfl) (by kernel_rfl) (by kernel_rfl) (by kernel_rfl) (fun _ _ _ h => h) (by kernel_rfl) ?_ (by assumption) ?_; rotate_left 1; (focus (intro wS hSw; (try dsimp only at hSw); go_simp <;> with_reducible rfl)); simp only [List.set_cons_zero, List.set_cons_succ])
    refine wpAnyH_next (i := 10) (fuel := 0) (L := (true :: true :: true :: true :: true :: true :: true :: true :: true :: true :: true :: []).toArray) rfl (by kernel_rfl) (by kernel_rfl) (by kernel_rfl) (fun K hK => ?_)
    focus (obtain ⟨a0, b0, c0, z0, z1, z2, f0, f1, f2⟩ := hHeld.2.1.facts; go_simp)
    refine hK.out _ _ (mkS _ (grown_set3 hHeld.1 _ _ _) (hHeld.2.1.set3 _ _ _)) (fun hHeld => ?_)
    clear hK K
    refine wpAnyH_done (by kernel_rfl) (NoPanic.normal ?_) _
    rotate_left 1
    have HF := Lib.hid (grown_bel HW1.out hHeld.1 hBw)
    go_wp2_with fail
    exact bodyPost_ret (v := vlV (numV (IntKind.i64.wrap (a.num - b.num)))) (by simp [results, Tryz.results157, go_sem, cell_set_self, z0, z1, z2, vlV, numV]) rfl ⟨rfl, HF.out⟩
  · have HCALL : Hid (∀ W : World, Calls Tryz.prog 181 #[.bool (decide (a.num < b.num))] W fun e w' => e = .returned (.agg #[.int .i64 rv.kind, .int .i64 rv.num, .string rv.text]) ∧ Below W.heap.size W w') := Lib.hid (fun W => by
      have h := rflag_any (decide (a.num < b.num)) W
      have e : flagV (decide (a.num < b.num)) = rv := hrv
      rw [e] at h
      exact h)
    go_enter Tryz.func157, Tryz.ntmps157
    go_wp2_with fail
    refine wp_gen fun w1 e1 => ?_
    have hB : VBox w1 w.heap.size := ⟨.int .i64 0, .int .i64 0, .string ⟨#[]⟩, by rw [e1]; repeat (first | exact heap_new' _ _ _ (by simp) | apply heap_old)⟩
    have hb1 : Below w.heap.size w w1 := by rw [e1]; exact (by repeat (first | exact Below.refl _ _ | assumption | refine Below.drew ?_ | refine bel_al ?_ _ | refine bel_set ?_ (by omega) _ | refine bel_tr ?_ (by assumption)))
    have u1 := cell_stays hb1 u1
    have t1 := cell_stays hb1 t1
    clear e1
    have HW1 := Lib.hid hb1
    obtain ⟨B, hBe⟩ : ∃ B, B = w.heap.size := ⟨_, rfl⟩
    have hBw : w.heap.size ≤ B := by omega
    rw [← hBe] at hB hbX ⊢
    clear hBe hb1
    have mkS : ∀ W, w1.grownBy W (some B) → VBox W B → (fun W => w1.grownBy W (some B) ∧ VBox W B ∧ W.cell? ⟨b1, o1 + 1, none⟩ = some (.int .i64 a.num) ∧ W.cell? ⟨b1, o1 + 3 + 1, none⟩ = some (.int .i64 b.num)) W := fun W hg hv => ⟨hg, hv, cell_grown hg u1 (fun e => hbX (by injection e with e; exact e.symm)), cell_grown hg t1 (fun e => hbX (by injection e with e; exact e.symm))⟩
    refine wp_region_noPanic ?_
    refine wp_region_held_drew (S := fun W => w1.grownBy W (some B) ∧ VBox W B ∧ W.cell? ⟨b1, o1 + 1, none⟩ = some (.int .i64 a.num) ∧ W.cell? ⟨b1, o1 + 3 + 1, none⟩ = some (.int .i64 b.num)) (by kernel_rfl) (mkS _ (below_grown (Below.refl _ _).drew _) (hB.stays (Below.refl _ _).drew)) (fun hHeld => ?_)
    generalize w1.drew = wD at hHeld ⊢
    focus (refine wpAnyH_take2 (i := 0) (fuel := 10) (L := (true :: false :: false :: false :: false :: false :: false :: false :: false :: false :: false :: []).toArray) (v := ?_) rfl rfl (by kernel_rfl) (by kernel_rfl) (by kernel_rfl) (by kernel_rfl) (fun _ _ _ h => h) (by kernel_rfl) ?_ (by assumption) ?_; rotate_left 1; (focus (intro wS hSw; (try dsimp only at hSw); go_simp <;> with_reducible rfl)); simp only [List.set_cons_zero, List.set_cons_succ])
    focus (refine wpAnyH_take2 (i := 1) (fuel := 9) (L := (true :: true :: false :: false :: false :: false :: false :: false :: false :: false :: false :: []).toArray) (v := ?_) rfl rfl (by kernel_rfl) (by kernel_rfl) (by kernel_rfl) (by kernel_rfl) (fun _ _ _ h => h) (by kernel_rfl) ?_ (by assumption) ?_; rotate_left 1; (focus (intro wS hSw; (try dsimp only at hSw); go_simp <;> with_reducible rfl)); simp only [List.set_cons_zero, List.set_cons_succ])
    focus (refine wpAnyH_take2 (i := 2) (fuel := 8) (L := (true :: true :: true :: false :: false :: false :: false :: false :: false :: false :: false :: []).toArray) (v := ?_) rfl rfl (by kernel_rfl) (by kernel_rfl) (by kernel_rfl) (by kernel_rfl) (fun _ _ _ h => h) (by kernel_rfl) ?_ (by assumption) ?_; rotate_left 1; (focus (intro wS hSw; (try dsimp only at hSw); go_simp <;> with_reducible rfl)); simp only [List.set_cons_zero, List.set_cons_succ])
    focus (refine wpAnyH_take2 (i := 3) (fuel := 7) (L := (true :: true :: true :: true :: false :: false :: false :: false :: false :: false :: false :: []).toArray) (v := ?_) rfl rfl (by kernel_rfl) (by kernel_rfl) (by kernel_rfl) (by kernel_rfl) (fun _ _ _ h => h) (by kernel_rfl) ?_ (by assumption) ?_; rotate_left 1; (focus (intro wS hSw; (try dsimp only at hSw); go_simp <;> with_reducible rfl)); simp only [List.set_cons_zero, List.set_cons_succ])
    focus (refine wpAnyH_take2 (i := 4) (fuel := 6) (L := (true :: true :: true :: true :: true :: false :: false :: false :: false :: false :: false :: []).toArray) (v := ?_) rfl rfl (by kernel_rfl) (by kernel_rfl) (by kernel_rfl) (by kernel_rfl) (fun _ _ _ h => h) (by kernel_rfl) ?_ (by assumption) ?_; rotate_left 1; (focus (intro wS hSw; (try dsimp only at hSw); go_simp <;> with_reducible rfl)); simp only [List.set_cons_zero, List.set_cons_succ])
    focus (refine wpAnyH_take2 (i := 5) (fuel := 5) (L := (true :: true :: true :: true :: true :: true :: false :: false :: false :: false :: false :: []).toArray) (v := ?_) rfl rfl (by kernel_rfl) (by kernel_rfl) (by kernel_rfl) (by kernel_rfl) (fun _ _ _ h => h) (by kernel_rfl) ?_ (by assumption) ?_; rotate_left 1; (focus (intro wS hSw; (try dsimp only at hSw); go_simp <;> with_reducible rfl)); simp only [List.set_cons_zero, List.set_cons_succ])
    focus (refine wpAnyH_take2 (i := 6) (fuel := 4) (L := (true :: true :: true :: true :: true :: true :: true :: false :: false :: false :: false :: []).toArray) (v := ?_) rfl rfl (by kernel_rfl) (by kernel_rfl) (by kernel_rfl) (by kernel_rfl) (fun _ _ _ h => h) (by kernel_rfl) ?_ (by assumption) ?_; rotate_left 1; (focus (intro wS hSw; (try dsimp only at hSw); go_simp <;> with_reducible rfl)); simp only [List.set_cons_zero, List.set_cons_succ])
    focus (refine wpAnyH_take2 (i := 7) (fuel := 3) (L := (true :: true :: true :: true :: true :: true :: true :: true :: false :: false :: false :: []).toArray) (v := ?_) rfl rfl (by kernel_rfl) (by kernel_rfl) (by kernel_rfl) (by kernel_rfl) (fun _ _ _ h => h) (by kernel_rfl) ?_ (by assumption) ?_; rotate_left 1; (focus (intro wS hSw; (try dsimp only at hSw); go_simp <;> with_reducible rfl)); simp only [List.set_cons_zero, List.set_cons_succ])
    focus (refine wpAnyH_take2 (i := 8) (fuel := 2) (L := (true :: true :: true :: true :: true :: true :: true :: true :: true :: false :: false :: []).toArray) (v := ?_) rfl rfl (by kernel_rfl) (by kernel_rfl) (by kernel_rfl) (by kernel_rfl) (fun _ _ _ h => h) (by kernel_rfl) ?_ (by assumption) ?_; rotate_left 1; (focus (intro wS hSw; (try dsimp only at hSw); go_simp <;> with_reducible rfl)); simp only [List.set_cons_zero, List.set_cons_succ])
    refine wpAnyH_next (i := 9) (fuel := 1) (L := (true :: true :: true :: true :: true :: true :: true :: true :: true :: true :: false :: []).toArray) rfl (by kernel_rfl) (by kernel_rfl) (by kernel_rfl) (fun K hK => ?_)
    focus (go_simp; refine (HCALL.out _).mono ?_; rintro e w4 ⟨rfl, hb4⟩)
    refine hK.out _ _ (mkS _ (grown_tr hHeld.1 (below_grown hb4 _)) (hHeld.2.1.stays hb4)) (fun hHeld => ?_)
    clear hK K
    refine wpAnyH_next (i := 10) (fuel := 0) (L := (true :: true :: true :: true :: true :: true :: true :: true :: true :: true :: true :: []).toArray) rfl (by kernel_rfl) (by kernel_rfl) (by kernel_rfl) (fun K hK => ?_)
    focus (obtain ⟨a0, b0, c0, z0, z1, z2, f0, f1, f2⟩ := hHeld.2.1.facts; go_simp)
    refine hK.out _ _ (mkS _ (grown_set3 hHeld.1 _ _ _) (hHeld.2.1.set3 _ _ _)) (fun hHeld => ?_)
    clear hK K
    refine wpAnyH_done (by kernel_rfl) (NoPanic.normal ?_) _
    rotate_left 1
    have HF := Lib.hid (grown_bel HW1.out hHeld.1 hBw)
    go_wp2_with fail
    exact bodyPost_ret (v := vlV rv) (by simp [results, Tryz.results157, go_sem, cell_set_self, z0, z1, z2, vlV]) rfl ⟨rfl, HF.out⟩
  · have HCALL : Hid (∀ W : World, Calls Tryz.prog 181 #[.bool (decide (a.num ≤ b.num))] W fun e w' => e = .returned (.agg #[.int .i64 rv.kind, .int .i64 rv.num, .string rv.text]) ∧ Below W.heap.size W w') := Lib.hid (fun W => by
      have h := rflag_any (decide (a.num ≤ b.num)) W
      have e : flagV (decide (a.num ≤ b.num)) = rv := hrv
      rw [e] at h
      exact h)
    go_enter Tryz.func157, Tryz.ntmps157
    go_wp2_with fail
    refine wp_gen fun w1 e1 => ?_
    have hB : VBox w1 w.heap.size := ⟨.int .i64 0, .int .i64 0, .string ⟨#[]⟩, by rw [e1]; repeat (first | exact heap_new' _ _ _ (by simp) | apply heap_old)⟩
    have hb1 : Below w.heap.size w w1 := by rw [e1]; exact (by repeat (first | exact Below.refl _ _ | assumption | refine Below.drew ?_ | refine bel_al ?_ _ | refine bel_set ?_ (by omega) _ | refine bel_tr ?_ (by assumption)))
    have u1 := cell_stays hb1 u1
    have t1 := cell_stays hb1 t1
    clear e1
    have HW1 := Lib.hid hb1
    obtain ⟨B, hBe⟩ : ∃ B, B = w.heap.size := ⟨_, rfl⟩
    have hBw : w.heap.size ≤ B := by omega
    rw [← hBe] at hB hbX ⊢
    clear hBe hb1
    have mkS : ∀ W, w1.grownBy W (some B) → VBox W B → (fun W => w1.grownBy W (some B) ∧ VBox W B ∧ W.cell? ⟨b1, o1 + 1, none⟩ = some (.int .i64 a.num) ∧ W.cell? ⟨b1, o1 + 3 + 1, none⟩ = some (.int .i64 b.num)) W := fun W hg hv => ⟨hg, hv, cell_grown hg u1 (fun e => hbX (by injection e with e; exact e.symm)), cell_grown hg t1 (fun e => hbX (by injection e with e; exact e.symm))⟩
    refine wp_region_noPanic ?_
    refine wp_region_held_drew (S := fun W => w1.grownBy W (some B) ∧ VBox W B ∧ W.cell? ⟨b1, o1 + 1, none⟩ = some (.int .i64 a.num) ∧ W.cell? ⟨b1, o1 + 3 + 1, none⟩ = some (.int .i64 b.num)) (by kernel_rfl) (mkS _ (below_grown (Below.refl _ _).drew _) (hB.stays (Below.refl _ _).drew)) (fun hHeld => ?_)
    generalize w1.drew = wD at hHeld ⊢
    focus (refine wpAnyH_take2 (i := 0) (fuel := 10) (L := (true :: false :: false :: false :: false :: false :: false :: false :: false :: false :: false :: []).toArray) (v := ?_) rfl rfl (by kernel_rfl) (by kernel_rfl) (by kernel_rfl) (by kernel_rfl) (fun _ _ _ h => h) (by kernel_rfl) ?_ (by assumption) ?_; rotate_left 1; (focus (intro wS hSw; (try dsimp only at hSw); go_simp <;> with_reducible rfl)); simp only [List.set_cons_zero, List.set_cons_succ])
    focus (refine wpAnyH_take2 (i := 1) (fuel := 9) (L := (true :: true :: false :: false :: false :: false :: false :: false :: false :: false :: false :: []).toArray) (v := ?_) rfl rfl (by kernel_rfl) (by kernel_rfl) (by kernel_rfl) (by kernel_rfl) (fun _ _ _ h => h) (by kernel_rfl) ?_ (by assumption) ?_; rotate_left 1; (focus (intro wS hSw; (try dsimp only at hSw); go_simp <;> with_reducible rfl)); simp only [List.set_cons_zero, List.set_cons_succ])
    focus (refine wpAnyH_take2 (i := 2) (fuel := 8) (L := (true :: true :: true :: false :: false :: false :: false :: false :: false :: false :: false :: []).toArray) (v := ?_) rfl rfl (by kernel_rfl) (by kernel_rfl) (by kernel_rfl) (by kernel_rfl) (fun _ _ _ h => h) (by kernel_rfl) ?_ (by assumption) ?_; rotate_left 1; (focus (intro wS hSw; (try dsimp only at hSw); go_simp <;> with_reducible rfl)); simp only [List.set_cons_zero, List.set_cons_succ])
    focus (refine wpAnyH_take2 (i := 3) (fuel := 7) (L := (true :: true :: true :: true :: false :: false :: false :: false :: false :: false :: false :: []).toArray) (v := ?_) rfl rfl (by kernel_rfl) (by kernel_rfl) (by kernel_rfl) (by kernel_rfl) (fun _ _ _ h => h) (by kernel_rfl) ?_ (by assumption) ?_; rotate_left 1; (focus (intro wS hSw; (try dsimp only at hSw); go_simp <;> with_reducible rfl)); simp only [List.set_cons_zero, List.set_cons_succ])
    focus (refine wpAnyH_take2 (i := 4) (fuel := 6) (L := (true :: true :: true :: true :: true :: false :: false :: false :: false :: false :: false :: []).toArray) (v := ?_) rfl rfl (by kernel_rfl) (by kernel_rfl) (by kernel_rfl) (by kernel_rfl) (fun _ _ _ h => h) (by kernel_rfl) ?_ (by assumption) ?_; rotate_left 1; (focus (intro wS hSw; (try dsimp only at hSw); go_simp <;> with_reducible rfl)); simp only [List.set_cons_zero, List.set_cons_succ])
    focus (refine wpAnyH_take2 (i := 5) (fuel := 5) (L := (true :: true :: true :: true :: true :: true :: false :: false :: false :: false :: false :: []).toArray) (v := ?_) rfl rfl (by kernel_rfl) (by kernel_rfl) (by kernel_rfl) (by kernel_rfl) (fun _ _ _ h => h) (by kernel_rfl) ?_ (by assumption) ?_; rotate_left 1; (focus (intro wS hSw; (try dsimp only at hSw); go_simp <;> with_reducible rfl)); simp only [List.set_cons_zero, List.set_cons_succ])
    focus (refine wpAnyH_take2 (i := 6) (fuel := 4) (L := (true :: true :: true :: true :: true :: true :: true :: false :: false :: false :: false :: []).toArray) (v := ?_) rfl rfl (by kernel_rfl) (by kernel_rfl) (by kernel_rfl) (by kernel_rfl) (fun _ _ _ h => h) (by kernel_rfl) ?_ (by assumption) ?_; rotate_left 1; (focus (intro wS hSw; (try dsimp only at hSw); go_simp <;> with_reducible rfl)); simp only [List.set_cons_zero, List.set_cons_succ])
    focus (refine wpAnyH_take2 (i := 7) (fuel := 3) (L := (true :: true :: true :: true :: true :: true :: true :: true :: false :: false :: false :: []).toArray) (v := ?_) rfl rfl (by kernel_rfl) (by kernel_rfl) (by kernel_rfl) (by kernel_rfl) (fun _ _ _ h => h) (by kernel_rfl) ?_ (by assumption) ?_; rotate_left 1; (focus (intro wS hSw; (try dsimp only at hSw); go_simp <;> with_reducible rfl)); simp only [List.set_cons_zero, List.set_cons_succ])
    focus (refine wpAnyH_take2 (i := 8) (fuel := 2) (L := (true :: true :: true :: true :: true :: true :: true :: true :: true :: false :: false :: []).toArray) (v := ?_) rfl rfl (by kernel_rfl) (by kernel_rfl) (by kernel_rfl) (by kernel_rfl) (fun _ _ _ h => h) (by kernel_rfl) ?_ (by assumption) ?_; rotate_left 1; (focus (intro wS hSw; (try dsimp only at hSw); go_simp <;> with_reducible rfl)); simp only [List.set_cons_zero, List.set_cons_succ])
    refine wpAnyH_next (i := 9) (fuel := 1) (L := (true :: true :: true :: true :: true :: true :: true :: true :: true :: true :: false :: []).toArray) rfl (by kernel_rfl) (by kernel_rfl) (by kernel_rfl) (fun K hK => ?_)
    focus (go_simp; refine (HCALL.out _).mono ?_; rintro e w4 ⟨rfl, hb4⟩)
    refine hK.out _ _ (mkS _ (grown_tr hHeld.1 (below_grown hb4 _)) (hHeld.2.1.stays hb4)) (fun hHeld => ?_)
    clear hK K
    refine wpAnyH_next (i := 10) (fuel := 0) (L := (true :: true :: true :: true :: true :: true :: true :: true :: true :: true :: true :: []).toArray) rfl (by kernel_rfl) (by kernel_rfl) (by kernel_rfl) (fun K hK => ?_)
    focus (obtain ⟨a0, b0, c0, z0, z1, z2, f0, f1, f2⟩ := hHeld.2.1.facts; go_simp)
    refine hK.out _ _ (mkS _ (grown_set3 hHeld.1 _ _ _) (hHeld.2.1.set3 _ _ _)) (fun hHeld => ?_)
    clear hK K
    refine wpAnyH_done (by kernel_rfl) (NoPanic.normal ?_) _
    rotate_left 1
    have HF := Lib.hid (grown_bel HW1.out hHeld.1 hBw)
    go_wp2_with fail
    exact bodyPost_ret (v := vlV rv) (by simp [results, Tryz.results157, go_sem, cell_set_self, z0, z1, z2, vlV]) rfl ⟨rfl, HF.out⟩
  · have HCALL : Hid (∀ W : World, Calls Tryz.prog 181 #[.bool (vlEq a b)] W fun e w' => e = .returned (.agg #[.int .i64 rv.kind, .int .i64 rv.num, .string rv.text]) ∧ Below W.heap.size W w') := Lib.hid (fun W => by
      have h := rflag_any (vlEq a b) W
      have e : flagV (vlEq a b) = rv := hrv
      rw [e] at h
      exact h)
    have heq := fun W => vl_eq2 a b W
    unfold vlV at heq
    go_enter Tryz.func157, Tryz.ntmps157
    go_wp2_with fail
    refine wp_gen fun w1 e1 => ?_
    have hB : VBox w1 w.heap.size := ⟨.int .i64 0, .int .i64 0, .string ⟨#[]⟩, by rw [e1]; repeat (first | exact heap_new' _ _ _ (by simp) | apply heap_old)⟩
    have hb1 : Below w.heap.size w w1 := by rw [e1]; exact (by repeat (first | exact Below.refl _ _ | assumption | refine Below.drew ?_ | refine bel_al ?_ _ | refine bel_set ?_ (by omega) _ | refine bel_tr ?_ (by assumption)))
    have u0 := cell_stays hb1 u0
    have u1 := cell_stays hb1 u1
    have u2 := cell_stays hb1 u2
    have t0 := cell_stays hb1 t0
    have t1 := cell_stays hb1 t1
    have t2 := cell_stays hb1 t2
    clear e1
    have HW1 := Lib.hid hb1
    obtain ⟨B, hBe⟩ : ∃ B, B = w.heap.size := ⟨_, rfl⟩
    have hBw : w.heap.size ≤ B := by omega
    rw [← hBe] at hB hbX ⊢
    clear hBe hb1
    have mkS : ∀ W, w1.grownBy W (some B) → VBox W B → (fun W => w1.grownBy W (some B) ∧ VBox W B ∧ W.cell? ⟨b1, o1, none⟩ = some (.int .i64 a.kind) ∧ W.cell? ⟨b1, o1 + 1, none⟩ = some (.int .i64 a.num) ∧ W.cell? ⟨b1, o1 + 2, none⟩ = some (.string a.text) ∧ W.cell? ⟨b1, o1 + 3, none⟩ = some (.int .i64 b.kind) ∧ W.cell? ⟨b1, o1 + 3 + 1, none⟩ = some (.int .i64 b.num) ∧ W.cell? ⟨b1, o1 + 3 + 2, none⟩ = some (.string b.text)) W := fun W hg hv => ⟨hg, hv, cell_grown hg u0 (fun e => hbX (by injection e with e; exact e.symm)), cell_grown hg u1 (fun e => hbX (by injection e with e; exact e.symm)), cell_grown hg u2 (fun e => hbX (by injection e with e; exact e.symm)), cell_grown hg t0 (fun e => hbX (by injection e with e; exact e.symm)), cell_grown hg t1 (fun e => hbX (by injection e with e; exact e.symm)), cell_grown hg t2 (fun e => hbX (by injection e with e; exact e.symm))⟩
    refine wp_region_noPanic ?_
    refine wp_region_held_drew (S := fun W => w1.grownBy W (some B) ∧ VBox W B ∧ W.cell? ⟨b1, o1, none⟩ = some (.int .i64 a.kind) ∧ W.cell? ⟨b1, o1 + 1, none⟩ = some (.int .i64 a.num) ∧ W.cell? ⟨b1, o1 + 2, none⟩ = some (.string a.text) ∧ W.cell? ⟨b1, o1 + 3, none⟩ = some (.int .i64 b.kind) ∧ W.cell? ⟨b1, o1 + 3 + 1, none⟩ = some (.int .i64 b.num) ∧ W.cell? ⟨b1, o1 + 3 + 2, none⟩ = some (.string b.text)) (by kernel_rfl) (mkS _ (below_grown (Below.refl _ _).drew _) (hB.stays (Below.refl _ _).drew)) (fun hHeld => ?_)
    generalize w1.drew = wD at hHeld ⊢
    focus (refine wpAnyH_take2 (i := 0) (fuel := 8) (L := (true :: false :: false :: false :: false :: false :: false :: false :: false :: []).toArray) (v := ?_) rfl rfl (by kernel_rfl) (by kernel_rfl) (by kernel_rfl) (by kernel_rfl) (fun _ _ _ h => h) (by kernel_rfl) ?_ (by assumption) ?_; rotate_left 1; (focus (intro wS hSw; (try dsimp only at hSw); go_simp <;> with_reducible rfl)); simp only [List.set_cons_zero, List.set_cons_succ])
    focus (refine wpAnyH_take2 (i := 1) (fuel := 7) (L := (true :: true :: false :: false :: false :: false :: false :: false :: false :: []).toArray) (v := ?_) rfl rfl (by kernel_rfl) (by kernel_rfl) (by kernel_rfl) (by kernel_rfl) (fun _ _ _ h => h) (by kernel_rfl) ?_ (by assumption) ?_; rotate_left 1; (focus (intro wS hSw; (try dsimp only at hSw); go_simp <;> with_reducible rfl)); simp only [List.set_cons_zero, List.set_cons_succ])
    focus (refine wpAnyH_take2 (i := 2) (fuel := 6) (L := (true :: true :: true :: false :: false :: false :: false :: false :: false :: []).toArray) (v := ?_) rfl rfl (by kernel_rfl) (by kernel_rfl) (by kernel_rfl) (by kernel_rfl) (fun _ _ _ h => h) (by kernel_rfl) ?_ (by assumption) ?_; rotate_left 1; (focus (intro wS hSw; (try dsimp only at hSw); go_simp <;> with_reducible rfl)); simp only [List.set_cons_zero, List.set_cons_succ])
    focus (refine wpAnyH_take2 (i := 3) (fuel := 5) (L := (true :: true :: true :: true :: false :: false :: false :: false :: false :: []).toArray) (v := ?_) rfl rfl (by kernel_rfl) (by kernel_rfl) (by kernel_rfl) (by kernel_rfl) (fun _ _ _ h => h) (by kernel_rfl) ?_ (by assumption) ?_; rotate_left 1; (focus (intro wS hSw; (try dsimp only at hSw); go_simp <;> with_reducible rfl)); simp only [List.set_cons_zero, List.set_cons_succ])
    focus (refine wpAnyH_take2 (i := 4) (fuel := 4) (L := (true :: true :: true :: true :: true :: false :: false :: false :: false :: []).toArray) (v := ?_) rfl rfl (by kernel_rfl) (by kernel_rfl) (by kernel_rfl) (by kernel_rfl) (fun _ _ _ h => h) (by kernel_rfl) ?_ (by assumption) ?_; rotate_left 1; (focus (intro wS hSw; (try dsimp only at hSw); go_simp <;> with_reducible rfl)); simp only [List.set_cons_zero, List.set_cons_succ])
    focus (refine wpAnyH_take2 (i := 5) (fuel := 3) (L := (true :: true :: true :: true :: true :: true :: false :: false :: false :: []).toArray) (v := ?_) rfl rfl (by kernel_rfl) (by kernel_rfl) (by kernel_rfl) (by kernel_rfl) (fun _ _ _ h => h) (by kernel_rfl) ?_ (by assumption) ?_; rotate_left 1; (focus (intro wS hSw; (try dsimp only at hSw); go_simp <;> with_reducible rfl)); simp only [List.set_cons_zero, List.set_cons_succ])
    focus (refine wpAnyH_take2 (i := 6) (fuel := 2) (L := (true :: true :: true :: true :: true :: true :: true :: false :: false :: []).toArray) (v := ?_) rfl rfl (by kernel_rfl) (by kernel_rfl) (by kernel_rfl) (by kernel_rfl) (fun _ _ _ h => h) (by kernel_rfl) ?_ (by assumption) ?_; rotate_left 1; (focus (intro wS hSw; (try dsimp only at hSw); go_simp <;> with_reducible rfl)); simp only [List.set_cons_zero, List.set_cons_succ])
    refine wpAnyH_next (i := 7) (fuel := 1) (L := (true :: true :: true :: true :: true :: true :: true :: true :: false :: []).toArray) rfl (by kernel_rfl) (by kernel_rfl) (by kernel_rfl) (fun K hK => ?_)
    focus (go_simp; refine (HCALL.out _).mono ?_; rintro e w4 ⟨rfl, hb4⟩)
    refine hK.out _ _ (mkS _ (grown_tr hHeld.1 (below_grown hb4 _)) (hHeld.2.1.stays hb4)) (fun hHeld => ?_)
    clear hK K
    refine wpAnyH_next (i := 8) (fuel := 0) (L := (true :: true :: true :: true :: true :: true :: true :: true :: true :: []).toArray) rfl (by kernel_rfl) (by kernel_rfl) (by kernel_rfl) (fun K hK => ?_)
    focus (obtain ⟨a0, b0, c0, z0, z1, z2, f0, f1, f2⟩ := hHeld.2.1.facts; go_simp)
    refine hK.out _ _ (mkS _ (grown_set3 hHeld.1 _ _ _) (hHeld.2.1.set3 _ _ _)) (fun hHeld => ?_)
    clear hK K
    refine wpAnyH_done (by kernel_rfl) (NoPanic.normal ?_) _
    rotate_left 1
    have HF := Lib.hid (grown_bel HW1.out hHeld.1 hBw)
    go_wp2_with fail
    exact bodyPost_ret (v := vlV rv) (by simp [results, Tryz.results157, go_sem, cell_set_self, z0, z1, z2, vlV]) rfl ⟨rfl, HF.out⟩
  · by_cases c1 : a.num = 1 <;> by_cases c2 : b.num = 1
    all_goals
      obtain ⟨t, ht⟩ : ∃ t, (decide (a.num = 1) && decide (b.num = 1)) = t := ⟨_, rfl⟩
      have hrv2 : flagV t = rv := by rw [← ht]; exact hrv
      simp [c1, c2] at ht
      have HN := Lib.hid (fun W => rflag_any t W)
      rw [hrv2] at HN
      clear hrv2 hrv
      unfold vlV at HN
      subst ht
      obtain ⟨da, hda⟩ : ∃ d, (a.num == 1) = d := ⟨_, rfl⟩
      have hda' : da = decide (a.num = 1) := by rw [← hda, Bool.eq_iff_iff]; simp
      simp only [c1, decide_true, decide_false] at hda'
      subst hda'
      obtain ⟨db, hdb⟩ : ∃ d, (b.num == 1) = d := ⟨_, rfl⟩
      have hdb' : db = decide (b.num = 1) := by rw [← hdb, Bool.eq_iff_iff]; simp
      simp only [c2, decide_true, decide_false] at hdb'
      subst hdb'
      go_enter Tryz.func157, Tryz.ntmps157
      go_wp2_with fail
      refine (HN.out _).mono ?_
      rintro e w1 ⟨rfl, hb1⟩
      obtain ⟨a0, b0, c0, z0, z1, z2, f0, f1, f2⟩ := (vbox_new hb1).facts
      go_wp2_with fail
      exact bodyPost_ret (v := vlV rv) (by simp [results, Tryz.results157, go_sem, cell_set_self, z0, z1, z2, vlV]) rfl ⟨rfl, bel_3 (bel_tr (bel_one w _) hb1) (Nat.le_refl _) _ _ _⟩
  · by_cases c1 : a.num = 1 <;> by_cases c2 : b.num = 1
    all_goals
      obtain ⟨t, ht⟩ : ∃ t, (decide (a.num = 1) || decide (b.num = 1)) = t := ⟨_, rfl⟩
      have hrv2 : flagV t = rv := by rw [← ht]; exact hrv
      simp [c1, c2] at ht
      have HN := Lib.hid (fun W => rflag_any t W)
      rw [hrv2] at HN
      clear hrv2 hrv
      unfold vlV at HN
      subst ht
      obtain ⟨da, hda⟩ : ∃ d, (a.num == 1) = d := ⟨_, rfl⟩
      have hda' : da = decide (a.num = 1) := by rw [← hda, Bool.eq_iff_iff]; simp
      simp only [c1, decide_true, decide_false] at hda'
      subst hda'
      obtain ⟨db, hdb⟩ : ∃ d, (b.num == 1) = d := ⟨_, rfl⟩
      have hdb' : db = decide (b.num = 1) := by rw [← hdb, Bool.eq_iff_iff]; simp
      simp only [c2, decide_true, decide_false] at hdb'
      subst hdb'
      go_enter Tryz.func157, Tryz.ntmps157
      go_wp2_with fail
      refine (HN.out _).mono ?_
      rintro e w1 ⟨rfl, hb1⟩
      obtain ⟨a0, b0, c0, z0, z1, z2, f0, f1, f2⟩ := (vbox_new hb1).facts
      go_wp2_with fail
      exact bodyPost_ret (v := vlV rv) (by simp [results, Tryz.results157, go_sem, cell_set_self, z0, z1, z2, vlV]) rfl ⟨rfl, bel_3 (bel_tr (bel_one w _) hb1) (Nat.le_refl _) _ _ _⟩
set_option maxRecDepth 100000 in
set_option maxHeartbeats 16000000 in
theorem rapply_one (a : Vl) (v : Value) (w : World) (hv : IsVls w v [a]) :
    Calls Tryz.prog 157 #[.int .i64 12, v] w fun e w' => e = .returned (vlV (applyR 12 a a)) ∧ Below w.heap.size w w' := by
  have HV := Lib.hid hv
  obtain ⟨A, c, rfl, -⟩ := hv
  obtain ⟨b1, o1, rfl, hbl, u0, u1, u2⟩ := vls_cells (l := [a]) HV.out (k := 0) (by simp)
  simp only [List.getD_cons_zero, Nat.zero_mul, Nat.add_zero] at u0 u1 u2
  have hbX : b1 ≠ w.heap.size := by omega
  obtain ⟨rv, hrv⟩ : ∃ r, applyR 12 a a = r := ⟨_, rfl⟩
  rw [hrv]
  unfold vlV at *
  by_cases c1 : a.num = 1
  all_goals
    obtain ⟨t, ht⟩ : ∃ t, (!decide (a.num = 1)) = t := ⟨_, rfl⟩
    have hrv2 : flagV t = rv := by rw [← ht]; exact hrv
    simp [c1] at ht
    have HN := Lib.hid (fun W => rflag_any t W)
    rw [hrv2] at HN
    clear hrv2 hrv
    unfold vlV at HN
    subst ht
    obtain ⟨da, hda⟩ : ∃ d, (a.num == 1) = d := ⟨_, rfl⟩
    have hda' : da = decide (a.num = 1) := by rw [← hda, Bool.eq_iff_iff]; simp
    simp only [c1, decide_true, decide_false] at hda'
    subst hda'
    have hna : (a.num != 1) = !(a.num == 1) := rfl
    rw [hda] at hna
    simp only [Bool.not_true, Bool.not_false] at hna
    go_enter Tryz.func157, Tryz.ntmps157
    go_wp2_with fail
    refine (HN.out _).mono ?_
    rintro e w1 ⟨rfl, hb1⟩
    obtain ⟨a0, b0, c0, z0, z1, z2, f0, f1, f2⟩ := (vbox_new hb1).facts
    go_wp2_with fail
    exact bodyPost_ret (v := vlV rv) (by simp [results, Tryz.results157, go_sem, cell_set_self, z0, z1, z2, vlV]) rfl ⟨rfl, bel_3 (bel_tr (bel_one w _) hb1) (Nat.le_refl _) _ _ _⟩
end Go.Proofs.YtclpglgigpjfoaaGreatDoor
