/- The value of an expression, checked: expr.Eval. Printed by gen_evalp.py. -/
import Derived.Test.YtclpglgigpjfoaaGreatDoorQMevl
import Derived.Test.YtclpglgigpjfoaaGreatDoorQMenv
namespace Go.Proofs.YtclpglgigpjfoaaGreatDoor
open Go.RowKit

def evalE (vs : List (List Evt)) (own : Int) (ev : Evt) (x : Ex) : Vl × Int := if chkE x ≠ 0 then (zeroVl, chkE x) else evalR vs own ev x
theorem chk_nodes {x : Ex} (h : chkE x = 0) : nodesE x = 0 := by
  unfold chkE at h
  split at h
  · exact absurd h (by decide)
  · split at h
    · exact absurd h (by decide)
    · exact h
set_option maxRecDepth 100000 in
set_option maxHeartbeats 8000000 in
theorem evalp_any (d : Nat) (vs : List (List Evt)) (v : Value) (own : Int) (ev : Evt) (u : Value) (hsm : ∀ k, (evsAt vs k).length ≤ 1048576)
    (x : Ex) (vx : Value) (w : World) (hv : IsVars w v vs) (hu : IsVls w u ev.vals) (hx : IsExs d w vx x.args) (hN : nodesN x ≤ 1048576) :
    Calls Tryz.prog 80 #[exV x vx, .agg #[v], .int .i64 own, evtV ev u] w fun e w' => e = .returned (.tuple #[vlV (evalE vs own ev x).1, .int .i64 (evalE vs own ev x).2]) ∧ Below w.heap.size w w' := by
  have HCK := Lib.hid (fun W (hW : Below w.heap.size w W) => check_any d x vx W (hx.stays (exAt_stays d) hW) hN)
  have HEV := Lib.hid (fun m W (hW : Below w.heap.size w W) (hm : OpsAt W m) (hn : nodesE x = 0) => eval_any vs v own ev u m hsm d x vx W (hv.stays varAt_stays hW) (hu.stays vlAt_stays hW) hm (hx.stays (exAt_stays d) hW) hn)
  obtain ⟨⟨RV, re⟩, hR⟩ : ∃ r, evalE vs own ev x = r := ⟨_, rfl⟩
  obtain ⟨ce, hce⟩ : ∃ c, chkE x = c := ⟨_, rfl⟩
  obtain ⟨⟨QV, qe⟩, hQ⟩ : ∃ r, evalR vs own ev x = r := ⟨_, rfl⟩
  have HR : Hid ((if ce ≠ 0 then (zeroVl, ce) else (QV, qe)) = (RV, re)) := Lib.hid (by rw [← hR, ← hce, ← hQ]; rfl)
  have HN : Hid (ce = 0 → nodesE x = 0) := Lib.hid (fun h => chk_nodes (hce.trans h))
  rw [hR]
  rw [hce] at HCK
  rw [hQ] at HEV
  clear hR hce hQ hsm
  obtain ⟨op, l, vr, fl, kd, vl⟩ := x
  obtain ⟨A, c, rfl, -⟩ := hv
  obtain ⟨Au, cu, rfl, -⟩ := hu
  obtain ⟨Ax, cx, rfl, -⟩ := hx
  unfold exV evtV evaV at *
  simp only [Ex.op, Ex.args, Ex.vr, Ex.fl, Ex.kd, Ex.val] at *
  unfold vlV at *
  clear hN
  go_enter Tryz.func80, Tryz.ntmps80
  go_wp2_with fail
  refine calls_gen fun W9 e9 => ?_
  have hX : W9.heap[w.heap.size]? = some (.cells [.int .i64 op, .slice Ax l.length cx, .int .i64 vr, .int .i64 fl, .int .i64 kd, .int .i64 vl.kind, .int .i64 vl.num, .string vl.text].toArray 90 (0, 0)) := by
    rw [e9]; repeat (first | exact heap_new' _ _ _ (by simp) | apply heap_old)
  have hE : W9.heap[w.heap.size + 1]? = some (.cells [.slice A vs.length c].toArray 46 (0, 0)) := by
    rw [e9]; repeat (first | exact heap_new' _ _ _ (by simp) | apply heap_old)
  have hV : W9.heap[w.heap.size + 1 + 1]? = some (.cells [.int .i64 ev.src, .int .i64 ev.sq, .int .i64 ev.ty, .int .i64 ev.tm, .slice Au ev.vals.length cu].toArray 71 (0, 0)) := by
    rw [e9]; repeat (first | exact heap_new' _ _ _ (by simp) | apply heap_old)
  have hB : VBox W9 (w.heap.size + 1 + 1 + 1) := ⟨.int .i64 0, .int .i64 0, .string ⟨#[]⟩, by rw [e9]; repeat (first | exact heap_new' _ _ _ (by simp) | apply heap_old)⟩
  have hb9 : Below w.heap.size w W9 := by rw [e9]; exact (by repeat (first | exact Below.refl _ _ | assumption | refine Below.drew ?_ | refine bel_al ?_ _ | refine bel_set ?_ (by omega) _ | refine bel_tr ?_ (by assumption)))
  clear e9
  refine (HCK.out _ hb9).mono ?_
  rintro e w3 ⟨rfl, hb3⟩
  have HX := Lib.hid (heap_stays hb3 hX)
  have HE := Lib.hid (heap_stays hb3 hE)
  have HV := Lib.hid (heap_stays hb3 hV)
  have HB := Lib.hid (hB.stays hb3)
  have HW3 := Lib.hid (bel_tr hb9 hb3)
  obtain ⟨X, hXe⟩ : ∃ X, X = w.heap.size := ⟨_, rfl⟩
  have hXl := HB.out.lt
  rw [← hXe] at HX HE HV HB hXl ⊢
  have hXw : w.heap.size ≤ X + 1 + 1 + 1 := by omega
  clear hX hE hV hB hb9 hb3 hXe HCK
  by_cases hz : ce = 0
  case neg =>
    obtain ⟨e1, e2⟩ : zeroVl = RV ∧ ce = re := by have h := HR.out; rw [if_pos hz] at h; injection h with e1 e2; exact ⟨e1, e2⟩
    subst e1 e2
    have hz' : (ce != 0) = true := by simpa using hz
    obtain ⟨a0, b0, c0, z0, z1, z2, f0, f1, f2⟩ := HB.out.facts
    clear hz
    go_wp2_with fail
    exact bodyPost_ret (v := .tuple #[.agg #[.int .i64 0, .int .i64 0, .string ⟨#[]⟩], .int .i64 ce]) (by simp [results, Tryz.results80, go_sem, cell_set_self, z0, z1, z2]) rfl ⟨rfl, bel_3 HW3.out (by omega) _ _ _⟩
  subst hz
  have HN0 := Lib.hid (HN.out rfl)
  obtain ⟨e1, e2⟩ : QV = RV ∧ qe = re := by have h := HR.out; rw [if_neg (by simp)] at h; injection h with e1 e2; exact ⟨e1, e2⟩
  subst e1 e2
  obtain ⟨q0, q1, q2, q3, q4, q5, q6, q7⟩ := blk8 HX.out
  have r0 : w3.cell? ⟨X + 1, 0, none⟩ = some (.slice A vs.length c) := blk_cell HE.out 0
  obtain ⟨t0, t1, t2, t3, t4⟩ := blk5 HV.out
  have mkS : ∀ W, w3.grownBy W (some (X + 1 + 1 + 1)) → VBox W (X + 1 + 1 + 1) → (fun W => w3.grownBy W (some (X + 1 + 1 + 1)) ∧ VBox W (X + 1 + 1 + 1) ∧ W.cell? ⟨X, 0, none⟩ = some (.int .i64 op) ∧ W.cell? ⟨X, 1, none⟩ = some (.slice Ax l.length cx) ∧ W.cell? ⟨X, 2, none⟩ = some (.int .i64 vr) ∧ W.cell? ⟨X, 3, none⟩ = some (.int .i64 fl) ∧ W.cell? ⟨X, 4, none⟩ = some (.int .i64 kd) ∧ W.cell? ⟨X, 5, none⟩ = some (.int .i64 vl.kind) ∧ W.cell? ⟨X, 6, none⟩ = some (.int .i64 vl.num) ∧ W.cell? ⟨X, 7, none⟩ = some (.string vl.text) ∧ W.cell? ⟨X + 1, 0, none⟩ = some (.slice A vs.length c) ∧ W.cell? ⟨X + 1 + 1, 0, none⟩ = some (.int .i64 ev.src) ∧ W.cell? ⟨X + 1 + 1, 1, none⟩ = some (.int .i64 ev.sq) ∧ W.cell? ⟨X + 1 + 1, 2, none⟩ = some (.int .i64 ev.ty) ∧ W.cell? ⟨X + 1 + 1, 3, none⟩ = some (.int .i64 ev.tm) ∧ W.cell? ⟨X + 1 + 1, 4, none⟩ = some (.slice Au ev.vals.length cu)) W := fun W hg hv => ⟨hg, hv, cell_grown hg q0 (fun e => by injection e with e; omega), cell_grown hg q1 (fun e => by injection e with e; omega), cell_grown hg q2 (fun e => by injection e with e; omega), cell_grown hg q3 (fun e => by injection e with e; omega), cell_grown hg q4 (fun e => by injection e with e; omega), cell_grown hg q5 (fun e => by injection e with e; omega), cell_grown hg q6 (fun e => by injection e with e; omega), cell_grown hg q7 (fun e => by injection e with e; omega), cell_grown hg r0 (fun e => by injection e with e; omega), cell_grown hg t0 (fun e => by injection e with e; omega), cell_grown hg t1 (fun e => by injection e with e; omega), cell_grown hg t2 (fun e => by injection e with e; omega), cell_grown hg t3 (fun e => by injection e with e; omega), cell_grown hg t4 (fun e => by injection e with e; omega)⟩
  go_wp2_with fail
  refine wp_region_noPanic ?_
  refine wp_region_held_drew (S := fun W => w3.grownBy W (some (X + 1 + 1 + 1)) ∧ VBox W (X + 1 + 1 + 1) ∧ W.cell? ⟨X, 0, none⟩ = some (.int .i64 op) ∧ W.cell? ⟨X, 1, none⟩ = some (.slice Ax l.length cx) ∧ W.cell? ⟨X, 2, none⟩ = some (.int .i64 vr) ∧ W.cell? ⟨X, 3, none⟩ = some (.int .i64 fl) ∧ W.cell? ⟨X, 4, none⟩ = some (.int .i64 kd) ∧ W.cell? ⟨X, 5, none⟩ = some (.int .i64 vl.kind) ∧ W.cell? ⟨X, 6, none⟩ = some (.int .i64 vl.num) ∧ W.cell? ⟨X, 7, none⟩ = some (.string vl.text) ∧ W.cell? ⟨X + 1, 0, none⟩ = some (.slice A vs.length c) ∧ W.cell? ⟨X + 1 + 1, 0, none⟩ = some (.int .i64 ev.src) ∧ W.cell? ⟨X + 1 + 1, 1, none⟩ = some (.int .i64 ev.sq) ∧ W.cell? ⟨X + 1 + 1, 2, none⟩ = some (.int .i64 ev.ty) ∧ W.cell? ⟨X + 1 + 1, 3, none⟩ = some (.int .i64 ev.tm) ∧ W.cell? ⟨X + 1 + 1, 4, none⟩ = some (.slice Au ev.vals.length cu)) (by kernel_rfl) (mkS _ (below_grown (Below.refl _ _).drew _) (HB.out.stays (Below.refl _ _).drew)) (fun hHeld => ?_)
  generalize w3.drew = wD at hHeld ⊢
  focus (refine wpAnyH_take2 (i := 0) (fuel := 10) (L := (true :: false :: false :: false :: false :: false :: false :: false :: false :: false :: false :: []).toArray) (v := ?_) rfl rfl (by kernel_rfl) (by kernel_rfl) (by kernel_rfl) (by kernel_rfl) (fun _ _ _ h => h) (by kernel_rfl) ?_ (by assumption) ?_; rotate_left 1; (focus (intro wS hSw; (try dsimp only at hSw); go_simp <;> with_reducible rfl)); simp only [List.set_cons_zero, List.set_cons_succ])
  focus (refine wpAnyH_take2 (i := 1) (fuel := 9) (L := (true :: true :: false :: false :: false :: false :: false :: false :: false :: false :: false :: []).toArray) (v := ?_) rfl rfl (by kernel_rfl) (by kernel_rfl) (by kernel_rfl) (by kernel_rfl) (fun _ _ _ h => h) (by kernel_rfl) ?_ (by assumption) ?_; rotate_left 1; (focus (intro wS hSw; (try dsimp only at hSw); go_simp <;> with_reducible rfl)); simp only [List.set_cons_zero, List.set_cons_succ])
  focus (refine wpAnyH_take2 (i := 2) (fuel := 8) (L := (true :: true :: true :: false :: false :: false :: false :: false :: false :: false :: false :: []).toArray) (v := ?_) rfl rfl (by kernel_rfl) (by kernel_rfl) (by kernel_rfl) (by kernel_rfl) (fun _ _ _ h => h) (by kernel_rfl) ?_ (by assumption) ?_; rotate_left 1; (focus (intro wS hSw; (try dsimp only at hSw); go_simp <;> with_reducible rfl)); simp only [List.set_cons_zero, List.set_cons_succ])
  focus (refine wpAnyH_take2 (i := 5) (fuel := 7) (L := (true :: true :: true :: false :: false :: true :: false :: false :: false :: false :: false :: []).toArray) (v := ?_) rfl rfl (by kernel_rfl) (by kernel_rfl) (by kernel_rfl) (by kernel_rfl) (fun _ _ _ h => h) (by kernel_rfl) ?_ (by assumption) ?_; rotate_left 1; (focus (intro wS hSw; (try dsimp only at hSw); go_simp <;> with_reducible rfl)); simp only [List.set_cons_zero, List.set_cons_succ])
  refine wpAnyH_next (i := 3) (fuel := 6) (L := (true :: true :: true :: true :: false :: true :: false :: false :: false :: false :: false :: []).toArray) rfl (by kernel_rfl) (by kernel_rfl) (by kernel_rfl) (fun K hK => ?_)
  focus (go_simp; refine (operations_any _).mono ?_; rintro e w4 ⟨m, rfl, hm, hb4⟩)
  refine hK.out _ _ (mkS _ (grown_tr hHeld.1 (below_grown hb4 _)) (hHeld.2.1.stays hb4)) (fun hHeld => ?_)
  clear hK K
  focus (refine wpAnyH_take2 (i := 4) (fuel := 5) (L := (true :: true :: true :: true :: true :: true :: false :: false :: false :: false :: false :: []).toArray) (v := ?_) rfl rfl (by kernel_rfl) (by kernel_rfl) (by kernel_rfl) (by kernel_rfl) (fun _ _ _ h => h) (by kernel_rfl) ?_ (by assumption) ?_; rotate_left 1; (focus (intro wS hSw; (try dsimp only at hSw); go_simp <;> with_reducible rfl)); simp only [List.set_cons_zero, List.set_cons_succ])
  refine wpAnyH_next (i := 6) (fuel := 4) (L := (true :: true :: true :: true :: true :: true :: true :: false :: false :: false :: false :: []).toArray) rfl (by kernel_rfl) (by kernel_rfl) (by kernel_rfl) (fun K hK => ?_)
  focus (go_simp; refine (HEV.out m _ (grown_bel HW3.out hHeld.1 hXw) hm HN0.out).mono ?_; rintro e w5 ⟨rfl, hb5⟩)
  refine hK.out _ _ (mkS _ (grown_tr hHeld.1 (below_grown hb5 _)) (hHeld.2.1.stays hb5)) (fun hHeld => ?_)
  clear hK K
  focus (refine wpAnyH_take2 (i := 7) (fuel := 3) (L := (true :: true :: true :: true :: true :: true :: true :: true :: false :: false :: false :: []).toArray) (v := ?_) rfl rfl (by kernel_rfl) (by kernel_rfl) (by kernel_rfl) (by kernel_rfl) (fun _ _ _ h => h) (by kernel_rfl) ?_ (by assumption) ?_; rotate_left 1; (focus (intro wS hSw; (try dsimp only at hSw); go_simp <;> with_reducible rfl)); simp only [List.set_cons_zero, List.set_cons_succ])
  focus (refine wpAnyH_take2 (i := 8) (fuel := 2) (L := (true :: true :: true :: true :: true :: true :: true :: true :: true :: false :: false :: []).toArray) (v := ?_) rfl rfl (by kernel_rfl) (by kernel_rfl) (by kernel_rfl) (by kernel_rfl) (fun _ _ _ h => h) (by kernel_rfl) ?_ (by assumption) ?_; rotate_left 1; (focus (intro wS hSw; (try dsimp only at hSw); go_simp <;> with_reducible rfl)); simp only [List.set_cons_zero, List.set_cons_succ])
  refine wpAnyH_next (i := 9) (fuel := 1) (L := (true :: true :: true :: true :: true :: true :: true :: true :: true :: true :: false :: []).toArray) rfl (by kernel_rfl) (by kernel_rfl) (by kernel_rfl) (fun K hK => ?_)
  focus (obtain ⟨a0, b0, c0, z0, z1, z2, f0, f1, f2⟩ := hHeld.2.1.facts; go_simp)
  refine hK.out _ _ (mkS _ (grown_set3 hHeld.1 _ _ _) (hHeld.2.1.set3 _ _ _)) (fun hHeld => ?_)
  clear hK K
  focus (refine wpAnyH_take2 (i := 10) (fuel := 0) (L := (true :: true :: true :: true :: true :: true :: true :: true :: true :: true :: true :: []).toArray) (v := ?_) rfl rfl (by kernel_rfl) (by kernel_rfl) (by kernel_rfl) (by kernel_rfl) (fun _ _ _ h => h) (by kernel_rfl) ?_ (by assumption) ?_; rotate_left 1; (focus (intro wS hSw; (try dsimp only at hSw); go_simp <;> with_reducible rfl)); simp only [List.set_cons_zero, List.set_cons_succ])
  refine wpAnyH_done (by kernel_rfl) (NoPanic.normal ?_) _
  rotate_left 1
  have HF := Lib.hid (grown_bel HW3.out hHeld.1 hXw)
  go_wp2_with fail
  exact bodyPost_ret (v := .tuple #[.agg #[.int .i64 QV.kind, .int .i64 QV.num, .string QV.text], .int .i64 qe]) (by simp [results, Tryz.results80, go_sem, cell_set_self, z0, z1, z2]) rfl ⟨rfl, HF.out⟩
end Go.Proofs.YtclpglgigpjfoaaGreatDoor
namespace Go.Proofs.YtclpglgigpjfoaaGreatDoor
open Go.RowKit

def noEv : Evt := ⟨0, 0, 0, 0, []⟩
/-- the values of the returned expressions, or the first error -/
def evsR (vs : List (List Evt)) : List Ex → List Vl × Int
  | [] => ([], 0)
  | a :: r => if (evalE vs (-1) noEv a).2 ≠ 0 then ([], (evalE vs (-1) noEv a).2) else ((evalE vs (-1) noEv a).1 :: (evsR vs r).1, (evsR vs r).2)
theorem evsR_drop {vs : List (List Evt)} {l : List Ex} {k : Nat} {a : Ex} (h : l[k]? = some a) :
    evsR vs (l.drop k) = if (evalE vs (-1) noEv a).2 ≠ 0 then ([], (evalE vs (-1) noEv a).2) else ((evalE vs (-1) noEv a).1 :: (evsR vs (l.drop (k + 1))).1, (evsR vs (l.drop (k + 1))).2) := by
  obtain ⟨h1, rfl⟩ := List.getElem?_eq_some_iff.1 h
  rw [List.drop_eq_getElem_cons h1, evsR]
def retR (r : List Vl × Int) : List Vl × Int := if r.2 ≠ 0 then ([], r.2) else (r.1, 0)
def rowR (l : List Evt) (nv : Nat) (rets : List Ex) (bs : List Bnd) : List Vl × Int :=
  if 16 < nv ∨ 256 < rets.length then ([], 5) else if (envR l nv bs).2 ≠ 0 then ([], (envR l nv bs).2) else retR (evsR (envR l nv bs).1 rets)
theorem evsAt_small {l : List Evt} {n : Int} {bs : List Bnd} (hb : bs.length ≤ 1048576) (k : Int) : (evsAt (envR l n bs).1 k).length ≤ 1048576 := by
  unfold evsAt
  split
  · simp
  · next h =>
    have hk : k.toNat < (envR l n bs).1.length := by omega
    rw [List.getD_eq_getElem?_getD, List.getElem?_eq_getElem hk, Option.getD_some]
    have hm := List.getElem_mem hk
    generalize (envR l n bs).1[k.toNat]'hk = x at hm ⊢
    unfold envR at hm
    split at hm
    · have := envV_row _ hm; omega
    · simp at hm
def RowRet (w : World) (r : List Vl × Int) (e : Ending) (W : World) : Prop := ∃ v, e = .returned (.tuple #[v, .int .i64 r.2]) ∧ IsVls W v r.1 ∧ Below w.heap.size w W
theorem noEv_is (w : World) : IsVls w (.slice none 0 0) noEv.vals := Sl.nil _ _ _ _ _ (Nat.zero_le _)
set_option maxRecDepth 100000 in
set_option maxHeartbeats 8000000 in
theorem row_any (l : List Evt) (vars : List Nv) (rets : List Ex) (bs : List Bnd) (d : Nat) (v vb : Value) (c0 c1 c2 c3 c4 c5 c6 c7 c8 c9 c10 c11 c12 c13 c14 c15 c16 c17 : Value) (w : World) (hl : IsEvts w v l) (hb : IsBnds w vb bs) (hvs : IsNvs w c1 vars) (hr : IsExs d w c17 rets)
    (hvals : ∀ e ∈ l, e.vals.length ≤ 1048576) (hbl : bs.length ≤ 1048576) (hN : ∀ x ∈ rets, nodesN x ≤ 1048576) :
    Calls Tryz.prog 43 #[v, .agg #[c0, c1, c2, c3, c4, c5, c6, c7, c8, c9, c10, c11, c12, c13, c14, c15, c16, c17], matV vb] w (RowRet w (rowR l vars.length rets bs)) := by
  have HEN := Lib.hid (fun W (hW : Below w.heap.size w W) => env_any l (vars.length : Int) bs v vb W (hl.stays evtAt_stays hW) (hb.stays bndAt_stays hW) hvals)
  have HSM := Lib.hid (fun k => evsAt_small (l := l) (n := (vars.length : Int)) hbl k)
  have HNN := Lib.hid hN
  obtain ⟨S, hS⟩ : ∃ r, rowR l vars.length rets bs = r := ⟨_, rfl⟩
  obtain ⟨⟨vs, ee⟩, hE⟩ : ∃ r, envR l (vars.length : Int) bs = r := ⟨_, rfl⟩
  have HS : Hid ((if 16 < vars.length ∨ 256 < rets.length then ([], 5) else if ee ≠ 0 then ([], ee) else retR (evsR vs rets)) = S) := Lib.hid (by rw [← hS]; unfold rowR; rw [hE])
  rw [hS]
  rw [hE] at HEN HSM
  clear hS hE hN hvals hbl
  obtain ⟨Av, cv, rfl, hv1, hv2, -⟩ := hvs
  obtain ⟨Ax, cx, rfl, h1, h2, hat⟩ := hr
  obtain ⟨Ab, cb, rfl, -⟩ := hb
  obtain ⟨Al, cl, rfl, -⟩ := hl
  have hn63 := len_i64 h1 h2
  have hv63 := len_i64 hv1 hv2
  have HL := Lib.hid hat
  clear h1 h2 hat hv1 hv2
  unfold matV at *
  obtain ⟨i0, hi, hz0, hz1, hz2⟩ := info_parts info_vl
  by_cases g1 : 16 < vars.length
  · have g1' : (16 : Int) < (vars.length : Int) := by omega
    obtain rfl : (([], 5) : List Vl × Int) = S := by have h := HS.out; rw [if_pos (.inl g1)] at h; exact h
    clear g1
    go_enter Tryz.func43, Tryz.ntmps43
    go_wp2_with fail
    exact bodyPost_ret (v := .tuple #[.slice none 0 0, .int .i64 5]) (by simp [results, Tryz.results43, go_sem]) rfl ⟨_, rfl, Sl.nil _ _ _ _ _ (Nat.zero_le _), (by repeat (first | exact Below.refl _ _ | assumption | refine Below.drew ?_ | refine bel_al ?_ _ | refine bel_set ?_ (by omega) _ | refine bel_tr ?_ (by assumption)))⟩
  by_cases g2 : 256 < rets.length
  · have g1' : ¬ (16 : Int) < (vars.length : Int) := by omega
    have g2' : (256 : Int) < (rets.length : Int) := by omega
    obtain rfl : (([], 5) : List Vl × Int) = S := by have h := HS.out; rw [if_pos (.inr g2)] at h; exact h
    clear g1 g2
    go_enter Tryz.func43, Tryz.ntmps43
    go_wp2_with fail
    exact bodyPost_ret (v := .tuple #[.slice none 0 0, .int .i64 5]) (by simp [results, Tryz.results43, go_sem]) rfl ⟨_, rfl, Sl.nil _ _ _ _ _ (Nat.zero_le _), (by repeat (first | exact Below.refl _ _ | assumption | refine Below.drew ?_ | refine bel_al ?_ _ | refine bel_set ?_ (by omega) _ | refine bel_tr ?_ (by assumption)))⟩
  have g1' : ¬ (16 : Int) < (vars.length : Int) := by omega
  have g2' : ¬ (256 : Int) < (rets.length : Int) := by omega
  have hS2 : (if ee ≠ 0 then ([], ee) else retR (evsR vs rets)) = S := by have h := HS.out; rw [if_neg (by omega)] at h; exact h
  have hr256 : rets.length ≤ 256 := by omega
  clear g1 g2 HS
  go_enter Tryz.func43, Tryz.ntmps43
  go_wp2_with fail
  refine calls_gen fun W9 e9 => ?_
  have hX : W9.heap[w.heap.size]? = some (.cells [c0, .slice Av vars.length cv, c2, c3, c4, c5, c6, c7, c8, c9, c10, c11, c12, c13, c14, c15, c16, .slice Ax rets.length cx].toArray 94 (0, 0)) := by
    rw [e9]; repeat (first | exact heap_new' _ _ _ (by simp) | apply heap_old)
  have hb9 : Below w.heap.size w W9 := by rw [e9]; exact (by repeat (first | exact Below.refl _ _ | assumption | refine Below.drew ?_ | refine bel_al ?_ _ | refine bel_set ?_ (by omega) _ | refine bel_tr ?_ (by assumption)))
  clear e9
  refine (HEN.out _ hb9).mono ?_
  rintro e w3 ⟨ve, rfl, hve, hb3⟩
  have HVE := Lib.hid hve
  obtain ⟨Ae, ce, rfl, -⟩ := hve
  have HX := Lib.hid (heap_stays hb3 hX)
  have HW3 := Lib.hid (bel_tr hb9 hb3)
  obtain ⟨X, hXe⟩ : ∃ X, X = w.heap.size := ⟨_, rfl⟩
  have hXl : X < w3.heap.size := blk_lt (heap_stays hb3 (hXe ▸ hX))
  rw [← hXe] at HX ⊢
  clear hX hb9 hb3 hXe
  by_cases hz : ee = 0
  case neg =>
    rw [if_pos hz] at hS2
    subst hS2
    have hz' : (ee != 0) = true := by simpa using hz
    clear hz
    go_wp2_with fail
    exact bodyPost_ret (v := .tuple #[.slice none 0 0, .int .i64 ee]) (by simp [results, Tryz.results43, go_sem]) rfl ⟨_, rfl, Sl.nil _ _ _ _ _ (Nat.zero_le _), bel_al HW3.out _⟩
  subst hz
  rw [if_neg (by simp)] at hS2
  obtain ⟨FR, hFR⟩ : ∃ r, evsR vs rets = r := ⟨_, rfl⟩
  rw [hFR] at hS2
  have HS := Lib.hid hS2
  have HFR := Lib.hid hFR
  have hx17 : w3.cell? ⟨X, 17, none⟩ = some (.slice Ax rets.length cx) := blk_cell HX.out 17
  clear hS2 hFR
  go_wp2_with fail
  refine wp_gen fun w1 e1 => ?_
  have hEv : w1.cell? ⟨w3.heap.size, 0, none⟩ = some (.slice Ae vs.length ce) := by rw [e1]; go_simp
  have hb1 : Below w3.heap.size w3 w1 := by rw [e1]; exact (by repeat (first | exact Below.refl _ _ | assumption | refine Below.drew ?_ | refine bel_al ?_ _ | refine bel_set ?_ (by omega) _ | refine bel_tr ?_ (by assumption)))
  clear e1 hx17
  have HEV := Lib.hid hEv
  have HB1 := Lib.hid hb1
  have HW1 := Lib.hid (bel_tr HW3.out hb1)
  have hEl : w3.heap.size < w1.heap.size := World.block_lt_of_cell? w1 ⟨w3.heap.size, 0, none⟩ hEv
  obtain ⟨Y, hY⟩ : ∃ Y, Y = w3.heap.size := ⟨_, rfl⟩
  rw [← hY] at HEV hEl ⊢
  clear hEv hb1 hY
  go_loopw [10, 40] (fun av i wr => ∃ (k : Nat) (pre : List Vl), k ≤ rets.length ∧ pre.length = k ∧ i = .int .i64 k ∧ Hid (wr.ownsRow w1.heap.size 88 3 av k (vlCells pre)) ∧ Hid ((pre ++ (evsR vs (rets.drop k)).1, (evsR vs (rets.drop k)).2) = FR ∧ Below w1.heap.size w1 wr)) (fun _ i _ => rets.length - (intOf i).toNat)
  case atStart => exact ⟨0, [], Nat.zero_le _, rfl, rfl, Lib.hid ⟨rfl, .inl ⟨rfl, rfl⟩⟩, Lib.hid ⟨by rw [List.drop_zero, HFR.out]; rfl, Below.refl _ _⟩⟩
  case round =>
    obtain ⟨k, pre, hk, hpl, rfl, hrow, hI⟩ := hrel
    have hb := hI.out.2
    obtain ⟨Ar, cr, rfl⟩ := slice_own hrow.out
    have hsz := hb.size
    by_cases hlt : k < rets.length
    · have hk' : (k : Int) < (rets.length : Int) := by omega
      obtain ⟨b, o, rfl, hea⟩ := HL.out k rets[k] (List.getElem?_eq_getElem hlt)
      have hg := Lib.hid (List.getElem?_eq_getElem hlt)
      have hmem : rets[k] ∈ rets := List.getElem_mem hlt
      obtain ⟨a, ha⟩ : ∃ a, a = rets[k] := ⟨_, rfl⟩
      rw [← ha] at hg hea hmem
      clear ha
      have hNa := HNN.out a hmem
      obtain ⟨d', v', hd', hv', p0, p1, p2, p3, p4, p5, p6, p7⟩ := ex_open (exAt_stays d _ _ _ _ _ (bel_tr HW1.out hb) hea)
      have hv2 := hv'
      obtain ⟨A', c', hvv, -⟩ := hv2
      subst hvv
      obtain ⟨⟨fv, fe⟩, hQ⟩ : ∃ r, evalE vs (-1) noEv a = r := ⟨_, rfl⟩
      have HC := Lib.hid (fun (W : World) (hW : Below wr.heap.size wr W) => evalp_any d' vs _ (-1) noEv (.slice none 0 0) HSM.out a _ W (HVE.out.stays varAt_stays (bel_tr HB1.out (bel_tr hb hW))) (noEv_is W) (hv'.stays (exAt_stays d') hW) hNa)
      rw [hQ] at HC
      unfold exV evtV vlV noEv at HC
      simp only at HC
      have HQ := Lib.hid hQ
      have e0 := cell_stays hb HEV.out
      have hel : Y < wr.heap.size := by omega
      clear hQ hea hd' hv' hmem hNa
      go_wp2_with fail
      refine (HC.out _ ?_).mono ?_
      · exact (by repeat (first | exact Below.refl _ _ | assumption | refine Below.drew ?_ | refine bel_al ?_ _ | refine bel_set ?_ (by omega) _ | refine bel_tr ?_ (by assumption)))
      rintro e w2 ⟨rfl, hb2⟩
      have HB2r : Hid (Below wr.heap.size wr w2) := Lib.hid (bel_tr (by exact (by repeat (first | exact Below.refl _ _ | assumption | refine Below.drew ?_ | refine bel_al ?_ _ | refine bel_set ?_ (by omega) _ | refine bel_tr ?_ (by assumption)))) hb2)
      have HB2 := Lib.hid (bel_tr hb HB2r.out)
      clear hb2 e0 p0 p1 p2 p3 p4 p5 p6 p7
      have h := hI.out.1
      rw [evsR_drop hg.out, HQ.out] at h
      by_cases hz : fe = 0
      case neg =>
        rw [if_pos hz] at h
        obtain rfl : (([], fe) : List Vl × Int) = S := by
          have h2 := HS.out
          rw [← h, retR, if_pos hz] at h2
          exact h2
        have hz' : (fe != 0) = true := by simpa using hz
        clear h hz
        go_wp2_with fail
        exact bodyPost_ret (v := .tuple #[.slice none 0 0, .int .i64 fe]) (by simp [results, Tryz.results43, go_sem]) rfl ⟨_, rfl, Sl.nil _ _ _ _ _ (Nat.zero_le _), bel_al (bel_tr HW1.out HB2.out) _⟩
      subst hz
      rw [if_neg (by simp)] at h
      have HH := Lib.hid h
      clear h
      have hks : k < 1048576 := by omega
      have HB3 := Lib.hid (bel_al (bel_al HB2r.out (.cells #[.int .i64 fv.kind, .int .i64 fv.num, .string fv.text] 88 (0, 0))) (.cells #[.int .i64 fv.kind, .int .i64 fv.num, .string fv.text] 88 (0, 0)))
      go_wp2_with (at_builtin; refine wpList_app _ rfl (.tmp 54) (.tmp 56) 69 rfl w1.heap.size 88 i0 _ 3 32 Tryz.underlying69 hi hz0 hz1 hz2 rfl (by decide) (.slice Ar k cr) k (vlCells pre) rfl (ownsRow_below hrow.out HB3.out) (some ⟨w2.heap.size + 1, 0, none⟩) 1 1 [.int .i64 fv.kind, .int .i64 fv.num, .string fv.text] rfl (src_new' _ [.int .i64 fv.kind, .int .i64 fv.num, .string fv.text] _ 1 3 _ (by simp) rfl (by intro u hu; simp only [List.mem_cons, List.not_mem_nil, or_false] at hu; rcases hu with rfl | rfl | rfl <;> rfl)) (by unfold maxLen; omega) (by omega) (by have := HB3.out.size; omega) ?_; intro v8 w8 hown8 hg8 hloc8)
      have hb8 : Below w1.heap.size w1 w8 := (bel_tr hb HB3.out).trans (grown_below hg8 (by have := HB3.out.size; omega) (fun g h => (ownsRow_lt hrow.out h).1))
      refine ⟨⟨k + 1, pre ++ [fv], by omega, by simp [hpl], by go_num, Lib.hid ?_, Lib.hid ⟨?_, hb8⟩⟩, by simp [intOf]; omega⟩
      · rw [vlCells_snoc]; exact hown8
      · have h := HH.out
        rw [List.append_assoc]
        exact h
    · have hk' : ¬ (k : Int) < (rets.length : Int) := by omega
      have HVL := Lib.hid (vlRow_is (l := pre) (by rw [hpl]; exact hrow.out))
      obtain rfl : ((pre, 0) : List Vl × Int) = S := by
        have h := hI.out.1
        have h2 := HS.out
        rw [List.drop_of_length_le (by omega), evsR, List.append_nil] at h
        rw [← h] at h2
        exact h2
      go_wp2_with fail
      exact bodyPost_ret (v := .tuple #[.slice Ar k cr, .int .i64 0]) (by simp [results, Tryz.results43, go_sem]) rfl ⟨_, rfl, HVL.out, bel_tr HW1.out hb⟩
end Go.Proofs.YtclpglgigpjfoaaGreatDoor
