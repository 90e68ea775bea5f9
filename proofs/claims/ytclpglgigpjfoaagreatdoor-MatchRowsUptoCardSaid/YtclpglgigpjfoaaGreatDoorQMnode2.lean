/- The program's node: the error of a node by itself. Printed by gen_node.py. -/
import Derived.Test.YtclpglgigpjfoaaGreatDoorQMex
namespace Go.Proofs.YtclpglgigpjfoaaGreatDoor
open Go.RowKit

/-- the error of a node by itself -/
def nodeE (x : Ex) : Int :=
  if arN x.op < 0 then 1
  else if (x.args.length : Int) ≠ arN x.op then 15
  else if (useP x.op).1 = true ∧ (x.vr < 0 ∨ 16 ≤ x.vr) ∨ (useP x.op).2 = true ∧ (x.fl < 0 ∨ 8 ≤ x.fl) then 2
  else if x.op = 4 ∧ (x.kd < 1 ∨ 5 < x.kd) then 1
  else if (x.op = 4 ∨ x.op = 0) ∧ conE x ≠ 0 then conE x
  else if (useP x.op).1 = false ∧ x.vr ≠ 0 ∨ (useP x.op).2 = false ∧ x.fl ≠ 0 ∨ x.op ≠ 4 ∧ x.kd ≠ 0 ∨ (x.op ≠ 4 ∧ x.op ≠ 0) ∧ vlEq x.val zeroVl = false then 3 else 0
set_option maxRecDepth 100000 in
set_option maxHeartbeats 2000000 in
theorem node_bad (x : Ex) (A : Option Addr) (n c : Nat) (w : World) (h : x.op < 0 ∨ 12 < x.op) :
    Calls Tryz.prog 142 #[exV x (.slice A n c)] w fun e w' => e = .returned (.int .i64 (nodeE x)) ∧ Below w.heap.size w w' := by
  have hE : nodeE x = 1 := by unfold nodeE; rw [if_pos (by unfold arN; rw [if_pos h]; omega)]
  rw [hE]
  have HA := Lib.hid (arity_any x.op)
  rw [show arP x.op = (0, false) by unfold arP; rw [if_pos h]] at HA
  clear hE h
  unfold exV
  go_enter Tryz.func142, Tryz.ntmps142
  go_wp2_with fail
  refine (HA.out _).mono ?_
  rintro e w1 ⟨rfl, hb1⟩
  go_wp2_with fail
  go_ret
  exact ⟨rfl, bel_tr (bel_one w _) hb1⟩
set_option maxRecDepth 100000 in
set_option maxHeartbeats 4000000 in
theorem node_2 (x : Ex) (A : Option Addr) (c : Nat) (w : World) (h2 : x.op = 2) (hn : x.args.length ≤ 1048576) :
    Calls Tryz.prog 142 #[exV x (.slice A x.args.length c)] w fun e w' => e = .returned (.int .i64 (nodeE x)) ∧ Below w.heap.size w w' := by
  obtain ⟨op, l, vr, fl, kd, ⟨k0, n0, t0⟩⟩ := x
  obtain ⟨R, hR⟩ : ∃ R, nodeE (.mk op l vr fl kd ⟨k0, n0, t0⟩) = R := ⟨_, rfl⟩
  rw [hR]
  have HA := Lib.hid (arity_any op)
  have HS := Lib.hid (uses_any op)
  have HQ : Hid (∀ W, (binOp .neq 88 (.agg #[.int .i64 k0, .int .i64 n0, .string t0]) (.agg #[.int .i64 0, .int .i64 0, .string ⟨#[]⟩])).run Tryz.prog W = .ok (.bool (!vlEq ⟨k0, n0, t0⟩ zeroVl)) W) := Lib.hid (fun W => vl_neq2 ⟨k0, n0, t0⟩ zeroVl W)
  have HC := Lib.hid (fun (W : World) (h : op = 4 → 1 ≤ kd) => constants_any (.mk op l vr fl kd ⟨k0, n0, t0⟩) A l.length c W h)
  obtain ⟨q, hq⟩ : ∃ q, vlEq ⟨k0, n0, t0⟩ zeroVl = q := ⟨_, rfl⟩
  obtain ⟨z, hz⟩ : ∃ z, conE (.mk op l vr fl kd ⟨k0, n0, t0⟩) = z := ⟨_, rfl⟩
  rw [hq] at HQ
  rw [hz] at HC
  unfold exV at *
  simp only [Ex.op, Ex.vr, Ex.fl, Ex.kd, Ex.val, Ex.args] at *
  subst h2
  obtain ⟨n, hnl⟩ : ∃ n, l.length = n := ⟨_, rfl⟩
  rw [hnl] at hn HC ⊢
  have HR : Hid (R = if (n : Int) ≠ 0 then 15 else if (vr < 0 ∨ 16 ≤ vr) then 2 else if fl ≠ 0 ∨ kd ≠ 0 ∨ q = false then 3 else 0) := Lib.hid (by rw [← hR, ← hq, ← hnl]; simp [nodeE, useP, arN, Ex.op, Ex.args, Ex.vr, Ex.fl, Ex.kd, Ex.val])
  clear hR hq hz hnl hn
  go_enter Tryz.func142, Tryz.ntmps142
  go_wp2_with fail
  refine (HA.out _).mono ?_
  rintro e w1 ⟨rfl, hb1⟩
  have hnew := (new_cells hb1).1
  have y0 : w1.cell? ⟨w.heap.size, 0, none⟩ = some (.int .i64 2) := by rw [hnew]; rfl
  have y1 : w1.cell? ⟨w.heap.size, 1, none⟩ = some (.slice A n c) := by rw [hnew]; rfl
  have y2 : w1.cell? ⟨w.heap.size, 2, none⟩ = some (.int .i64 vr) := by rw [hnew]; rfl
  have y3 : w1.cell? ⟨w.heap.size, 3, none⟩ = some (.int .i64 fl) := by rw [hnew]; rfl
  have y4 : w1.cell? ⟨w.heap.size, 4, none⟩ = some (.int .i64 kd) := by rw [hnew]; rfl
  have y5 : w1.cell? ⟨w.heap.size, 5, none⟩ = some (.int .i64 k0) := by rw [hnew]; rfl
  have y6 : w1.cell? ⟨w.heap.size, 6, none⟩ = some (.int .i64 n0) := by rw [hnew]; rfl
  have y7 : w1.cell? ⟨w.heap.size, 7, none⟩ = some (.string t0) := by rw [hnew]; rfl
  have HB1 := Lib.hid (bel_tr (bel_one w _) hb1)
  clear hnew hb1
  rw [show arP 2 = (0, true) from rfl]
  by_cases h0 : (n : Int) = 0
  case neg =>
    have h0' : ((n : Int) == 0) = false := by simpa using h0
    obtain rfl : R = 15 := by rw [HR.out, if_pos h0]
    clear HR h0
    go_wp2_with fail
    all_goals
      go_ret
      exact ⟨rfl, HB1.out⟩
  have H0 := Lib.hid h0
  obtain rfl : n = 0 := by omega
  clear h0 H0
  go_wp2_with fail
  refine (HS.out _).mono ?_
  rintro e w2 ⟨rfl, hb2⟩
  replace y0 := cell_stays hb2 y0
  replace y1 := cell_stays hb2 y1
  replace y2 := cell_stays hb2 y2
  replace y3 := cell_stays hb2 y3
  replace y4 := cell_stays hb2 y4
  replace y5 := cell_stays hb2 y5
  replace y6 := cell_stays hb2 y6
  replace y7 := cell_stays hb2 y7
  have HB2 := Lib.hid (bel_tr HB1.out hb2)
  rw [show useP 2 = (true, false) from rfl]
  have hQ := HQ.out
  clear HA HS HQ hb2
  by_cases q0 : vr < 0
  case pos =>
    obtain rfl : R = 2 := by rw [HR.out]; simp [q0]
    clear HR 
    go_wp2_with fail
    all_goals
      first
        | (exfalso; omega)
        | (exfalso; simp only [decide_eq_true_eq, decide_eq_false_iff_not] at *; omega)
        | (go_ret; exact ⟨rfl, HB2.out⟩)
        | exact bodyPost_ret (v := .int .i64 2) (by simp [results, Tryz.results142, go_sem]) rfl ⟨rfl, HB2.out⟩
  by_cases q1 : 16 ≤ vr
  case pos =>
    obtain rfl : R = 2 := by rw [HR.out]; simp [q0, q1]
    clear HR 
    go_wp2_with fail
    all_goals
      first
        | (exfalso; omega)
        | (exfalso; simp only [decide_eq_true_eq, decide_eq_false_iff_not] at *; omega)
        | (go_ret; exact ⟨rfl, HB2.out⟩)
        | exact bodyPost_ret (v := .int .i64 2) (by simp [results, Tryz.results142, go_sem]) rfl ⟨rfl, HB2.out⟩
  clear HC
  by_cases p1 : fl = 0
  case neg =>
    have bp1 : (fl == 0) = false := by simpa using p1
    have hp1 := Lib.hid p1
    obtain rfl : R = 3 := by rw [HR.out]; simp [q0, q1, p1]
    clear HR p1
    go_wp2_with fail
    all_goals
      first
        | (exfalso; omega)
        | (exfalso; simp only [decide_eq_true_eq, decide_eq_false_iff_not] at *; omega)
        | (go_ret; exact ⟨rfl, HB2.out⟩)
        | exact bodyPost_ret (v := .int .i64 3) (by simp [results, Tryz.results142, go_sem]) rfl ⟨rfl, HB2.out⟩
  subst p1
  by_cases p2 : kd = 0
  case neg =>
    have bp2 : (kd == 0) = false := by simpa using p2
    have hp2 := Lib.hid p2
    obtain rfl : R = 3 := by rw [HR.out]; simp [q0, q1, p2]
    clear HR p2
    go_wp2_with fail
    all_goals
      first
        | (exfalso; omega)
        | (exfalso; simp only [decide_eq_true_eq, decide_eq_false_iff_not] at *; omega)
        | (go_ret; exact ⟨rfl, HB2.out⟩)
        | exact bodyPost_ret (v := .int .i64 3) (by simp [results, Tryz.results142, go_sem]) rfl ⟨rfl, HB2.out⟩
  subst p2
  cases q with
  | false =>
    obtain rfl : R = 3 := by rw [HR.out]; simp [q0, q1]
    clear HR 
    go_wp2_with fail
    all_goals
      first
        | (exfalso; omega)
        | (exfalso; simp only [decide_eq_true_eq, decide_eq_false_iff_not] at *; omega)
        | (go_ret; exact ⟨rfl, HB2.out⟩)
        | exact bodyPost_ret (v := .int .i64 3) (by simp [results, Tryz.results142, go_sem]) rfl ⟨rfl, HB2.out⟩
  | true =>
    obtain rfl : R = 0 := by rw [HR.out]; simp [q0, q1]
    clear HR 
    go_wp2_with fail
    all_goals
      first
        | (exfalso; omega)
        | (exfalso; simp only [decide_eq_true_eq, decide_eq_false_iff_not] at *; omega)
        | (go_ret; exact ⟨rfl, HB2.out⟩)
        | exact bodyPost_ret (v := .int .i64 0) (by simp [results, Tryz.results142, go_sem]) rfl ⟨rfl, HB2.out⟩
set_option maxRecDepth 100000 in
set_option maxHeartbeats 4000000 in
theorem node_3 (x : Ex) (A : Option Addr) (c : Nat) (w : World) (h2 : x.op = 3) (hn : x.args.length ≤ 1048576) :
    Calls Tryz.prog 142 #[exV x (.slice A x.args.length c)] w fun e w' => e = .returned (.int .i64 (nodeE x)) ∧ Below w.heap.size w w' := by
  obtain ⟨op, l, vr, fl, kd, ⟨k0, n0, t0⟩⟩ := x
  obtain ⟨R, hR⟩ : ∃ R, nodeE (.mk op l vr fl kd ⟨k0, n0, t0⟩) = R := ⟨_, rfl⟩
  rw [hR]
  have HA := Lib.hid (arity_any op)
  have HS := Lib.hid (uses_any op)
  have HQ : Hid (∀ W, (binOp .neq 88 (.agg #[.int .i64 k0, .int .i64 n0, .string t0]) (.agg #[.int .i64 0, .int .i64 0, .string ⟨#[]⟩])).run Tryz.prog W = .ok (.bool (!vlEq ⟨k0, n0, t0⟩ zeroVl)) W) := Lib.hid (fun W => vl_neq2 ⟨k0, n0, t0⟩ zeroVl W)
  have HC := Lib.hid (fun (W : World) (h : op = 4 → 1 ≤ kd) => constants_any (.mk op l vr fl kd ⟨k0, n0, t0⟩) A l.length c W h)
  obtain ⟨q, hq⟩ : ∃ q, vlEq ⟨k0, n0, t0⟩ zeroVl = q := ⟨_, rfl⟩
  obtain ⟨z, hz⟩ : ∃ z, conE (.mk op l vr fl kd ⟨k0, n0, t0⟩) = z := ⟨_, rfl⟩
  rw [hq] at HQ
  rw [hz] at HC
  unfold exV at *
  simp only [Ex.op, Ex.vr, Ex.fl, Ex.kd, Ex.val, Ex.args] at *
  subst h2
  obtain ⟨n, hnl⟩ : ∃ n, l.length = n := ⟨_, rfl⟩
  rw [hnl] at hn HC ⊢
  have HR : Hid (R = if (n : Int) ≠ 0 then 15 else if (vr < 0 ∨ 16 ≤ vr) then 2 else if fl ≠ 0 ∨ kd ≠ 0 ∨ q = false then 3 else 0) := Lib.hid (by rw [← hR, ← hq, ← hnl]; simp [nodeE, useP, arN, Ex.op, Ex.args, Ex.vr, Ex.fl, Ex.kd, Ex.val])
  clear hR hq hz hnl hn
  go_enter Tryz.func142, Tryz.ntmps142
  go_wp2_with fail
  refine (HA.out _).mono ?_
  rintro e w1 ⟨rfl, hb1⟩
  have hnew := (new_cells hb1).1
  have y0 : w1.cell? ⟨w.heap.size, 0, none⟩ = some (.int .i64 3) := by rw [hnew]; rfl
  have y1 : w1.cell? ⟨w.heap.size, 1, none⟩ = some (.slice A n c) := by rw [hnew]; rfl
  have y2 : w1.cell? ⟨w.heap.size, 2, none⟩ = some (.int .i64 vr) := by rw [hnew]; rfl
  have y3 : w1.cell? ⟨w.heap.size, 3, none⟩ = some (.int .i64 fl) := by rw [hnew]; rfl
  have y4 : w1.cell? ⟨w.heap.size, 4, none⟩ = some (.int .i64 kd) := by rw [hnew]; rfl
  have y5 : w1.cell? ⟨w.heap.size, 5, none⟩ = some (.int .i64 k0) := by rw [hnew]; rfl
  have y6 : w1.cell? ⟨w.heap.size, 6, none⟩ = some (.int .i64 n0) := by rw [hnew]; rfl
  have y7 : w1.cell? ⟨w.heap.size, 7, none⟩ = some (.string t0) := by rw [hnew]; rfl
  have HB1 := Lib.hid (bel_tr (bel_one w _) hb1)
  clear hnew hb1
  rw [show arP 3 = (0, true) from rfl]
  by_cases h0 : (n : Int) = 0
  case neg =>
    have h0' : ((n : Int) == 0) = false := by simpa using h0
    obtain rfl : R = 15 := by rw [HR.out, if_pos h0]
    clear HR h0
    go_wp2_with fail
    all_goals
      go_ret
      exact ⟨rfl, HB1.out⟩
  have H0 := Lib.hid h0
  obtain rfl : n = 0 := by omega
  clear h0 H0
  go_wp2_with fail
  refine (HS.out _).mono ?_
  rintro e w2 ⟨rfl, hb2⟩
  replace y0 := cell_stays hb2 y0
  replace y1 := cell_stays hb2 y1
  replace y2 := cell_stays hb2 y2
  replace y3 := cell_stays hb2 y3
  replace y4 := cell_stays hb2 y4
  replace y5 := cell_stays hb2 y5
  replace y6 := cell_stays hb2 y6
  replace y7 := cell_stays hb2 y7
  have HB2 := Lib.hid (bel_tr HB1.out hb2)
  rw [show useP 3 = (true, false) from rfl]
  have hQ := HQ.out
  clear HA HS HQ hb2
  by_cases q0 : vr < 0
  case pos =>
    obtain rfl : R = 2 := by rw [HR.out]; simp [q0]
    clear HR 
    go_wp2_with fail
    all_goals
      first
        | (exfalso; omega)
        | (exfalso; simp only [decide_eq_true_eq, decide_eq_false_iff_not] at *; omega)
        | (go_ret; exact ⟨rfl, HB2.out⟩)
        | exact bodyPost_ret (v := .int .i64 2) (by simp [results, Tryz.results142, go_sem]) rfl ⟨rfl, HB2.out⟩
  by_cases q1 : 16 ≤ vr
  case pos =>
    obtain rfl : R = 2 := by rw [HR.out]; simp [q0, q1]
    clear HR 
    go_wp2_with fail
    all_goals
      first
        | (exfalso; omega)
        | (exfalso; simp only [decide_eq_true_eq, decide_eq_false_iff_not] at *; omega)
        | (go_ret; exact ⟨rfl, HB2.out⟩)
        | exact bodyPost_ret (v := .int .i64 2) (by simp [results, Tryz.results142, go_sem]) rfl ⟨rfl, HB2.out⟩
  clear HC
  by_cases p1 : fl = 0
  case neg =>
    have bp1 : (fl == 0) = false := by simpa using p1
    have hp1 := Lib.hid p1
    obtain rfl : R = 3 := by rw [HR.out]; simp [q0, q1, p1]
    clear HR p1
    go_wp2_with fail
    all_goals
      first
        | (exfalso; omega)
        | (exfalso; simp only [decide_eq_true_eq, decide_eq_false_iff_not] at *; omega)
        | (go_ret; exact ⟨rfl, HB2.out⟩)
        | exact bodyPost_ret (v := .int .i64 3) (by simp [results, Tryz.results142, go_sem]) rfl ⟨rfl, HB2.out⟩
  subst p1
  by_cases p2 : kd = 0
  case neg =>
    have bp2 : (kd == 0) = false := by simpa using p2
    have hp2 := Lib.hid p2
    obtain rfl : R = 3 := by rw [HR.out]; simp [q0, q1, p2]
    clear HR p2
    go_wp2_with fail
    all_goals
      first
        | (exfalso; omega)
        | (exfalso; simp only [decide_eq_true_eq, decide_eq_false_iff_not] at *; omega)
        | (go_ret; exact ⟨rfl, HB2.out⟩)
        | exact bodyPost_ret (v := .int .i64 3) (by simp [results, Tryz.results142, go_sem]) rfl ⟨rfl, HB2.out⟩
  subst p2
  cases q with
  | false =>
    obtain rfl : R = 3 := by rw [HR.out]; simp [q0, q1]
    clear HR 
    go_wp2_with fail
    all_goals
      first
        | (exfalso; omega)
        | (exfalso; simp only [decide_eq_true_eq, decide_eq_false_iff_not] at *; omega)
        | (go_ret; exact ⟨rfl, HB2.out⟩)
        | exact bodyPost_ret (v := .int .i64 3) (by simp [results, Tryz.results142, go_sem]) rfl ⟨rfl, HB2.out⟩
  | true =>
    obtain rfl : R = 0 := by rw [HR.out]; simp [q0, q1]
    clear HR 
    go_wp2_with fail
    all_goals
      first
        | (exfalso; omega)
        | (exfalso; simp only [decide_eq_true_eq, decide_eq_false_iff_not] at *; omega)
        | (go_ret; exact ⟨rfl, HB2.out⟩)
        | exact bodyPost_ret (v := .int .i64 0) (by simp [results, Tryz.results142, go_sem]) rfl ⟨rfl, HB2.out⟩
set_option maxRecDepth 100000 in
set_option maxHeartbeats 4000000 in
theorem node_1 (x : Ex) (A : Option Addr) (c : Nat) (w : World) (h2 : x.op = 1) (hn : x.args.length ≤ 1048576) :
    Calls Tryz.prog 142 #[exV x (.slice A x.args.length c)] w fun e w' => e = .returned (.int .i64 (nodeE x)) ∧ Below w.heap.size w w' := by
  obtain ⟨op, l, vr, fl, kd, ⟨k0, n0, t0⟩⟩ := x
  obtain ⟨R, hR⟩ : ∃ R, nodeE (.mk op l vr fl kd ⟨k0, n0, t0⟩) = R := ⟨_, rfl⟩
  rw [hR]
  have HA := Lib.hid (arity_any op)
  have HS := Lib.hid (uses_any op)
  have HQ : Hid (∀ W, (binOp .neq 88 (.agg #[.int .i64 k0, .int .i64 n0, .string t0]) (.agg #[.int .i64 0, .int .i64 0, .string ⟨#[]⟩])).run Tryz.prog W = .ok (.bool (!vlEq ⟨k0, n0, t0⟩ zeroVl)) W) := Lib.hid (fun W => vl_neq2 ⟨k0, n0, t0⟩ zeroVl W)
  have HC := Lib.hid (fun (W : World) (h : op = 4 → 1 ≤ kd) => constants_any (.mk op l vr fl kd ⟨k0, n0, t0⟩) A l.length c W h)
  obtain ⟨q, hq⟩ : ∃ q, vlEq ⟨k0, n0, t0⟩ zeroVl = q := ⟨_, rfl⟩
  obtain ⟨z, hz⟩ : ∃ z, conE (.mk op l vr fl kd ⟨k0, n0, t0⟩) = z := ⟨_, rfl⟩
  rw [hq] at HQ
  rw [hz] at HC
  unfold exV at *
  simp only [Ex.op, Ex.vr, Ex.fl, Ex.kd, Ex.val, Ex.args] at *
  subst h2
  obtain ⟨n, hnl⟩ : ∃ n, l.length = n := ⟨_, rfl⟩
  rw [hnl] at hn HC ⊢
  have HR : Hid (R = if (n : Int) ≠ 0 then 15 else if (vr < 0 ∨ 16 ≤ vr) ∨ fl < 0 ∨ 8 ≤ fl then 2 else if kd ≠ 0 ∨ q = false then 3 else 0) := Lib.hid (by rw [← hR, ← hq, ← hnl]; simp [nodeE, useP, arN, Ex.op, Ex.args, Ex.vr, Ex.fl, Ex.kd, Ex.val, or_assoc])
  clear hR hq hz hnl hn
  go_enter Tryz.func142, Tryz.ntmps142
  go_wp2_with fail
  refine (HA.out _).mono ?_
  rintro e w1 ⟨rfl, hb1⟩
  have hnew := (new_cells hb1).1
  have y0 : w1.cell? ⟨w.heap.size, 0, none⟩ = some (.int .i64 1) := by rw [hnew]; rfl
  have y1 : w1.cell? ⟨w.heap.size, 1, none⟩ = some (.slice A n c) := by rw [hnew]; rfl
  have y2 : w1.cell? ⟨w.heap.size, 2, none⟩ = some (.int .i64 vr) := by rw [hnew]; rfl
  have y3 : w1.cell? ⟨w.heap.size, 3, none⟩ = some (.int .i64 fl) := by rw [hnew]; rfl
  have y4 : w1.cell? ⟨w.heap.size, 4, none⟩ = some (.int .i64 kd) := by rw [hnew]; rfl
  have y5 : w1.cell? ⟨w.heap.size, 5, none⟩ = some (.int .i64 k0) := by rw [hnew]; rfl
  have y6 : w1.cell? ⟨w.heap.size, 6, none⟩ = some (.int .i64 n0) := by rw [hnew]; rfl
  have y7 : w1.cell? ⟨w.heap.size, 7, none⟩ = some (.string t0) := by rw [hnew]; rfl
  have HB1 := Lib.hid (bel_tr (bel_one w _) hb1)
  clear hnew hb1
  rw [show arP 1 = (0, true) from rfl]
  by_cases h0 : (n : Int) = 0
  case neg =>
    have h0' : ((n : Int) == 0) = false := by simpa using h0
    obtain rfl : R = 15 := by rw [HR.out, if_pos h0]
    clear HR h0
    go_wp2_with fail
    all_goals
      go_ret
      exact ⟨rfl, HB1.out⟩
  have H0 := Lib.hid h0
  obtain rfl : n = 0 := by omega
  clear h0 H0
  go_wp2_with fail
  refine (HS.out _).mono ?_
  rintro e w2 ⟨rfl, hb2⟩
  replace y0 := cell_stays hb2 y0
  replace y1 := cell_stays hb2 y1
  replace y2 := cell_stays hb2 y2
  replace y3 := cell_stays hb2 y3
  replace y4 := cell_stays hb2 y4
  replace y5 := cell_stays hb2 y5
  replace y6 := cell_stays hb2 y6
  replace y7 := cell_stays hb2 y7
  have HB2 := Lib.hid (bel_tr HB1.out hb2)
  rw [show useP 1 = (true, true) from rfl]
  have hQ := HQ.out
  clear HA HS HQ hb2
  by_cases q0 : vr < 0
  case pos =>
    obtain rfl : R = 2 := by rw [HR.out]; simp [q0]
    clear HR 
    go_wp2_with fail
    all_goals
      first
        | (exfalso; omega)
        | (exfalso; simp only [decide_eq_true_eq, decide_eq_false_iff_not] at *; omega)
        | (go_ret; exact ⟨rfl, HB2.out⟩)
        | exact bodyPost_ret (v := .int .i64 2) (by simp [results, Tryz.results142, go_sem]) rfl ⟨rfl, HB2.out⟩
  by_cases q1 : 16 ≤ vr
  case pos =>
    obtain rfl : R = 2 := by rw [HR.out]; simp [q0, q1]
    clear HR 
    go_wp2_with fail
    all_goals
      first
        | (exfalso; omega)
        | (exfalso; simp only [decide_eq_true_eq, decide_eq_false_iff_not] at *; omega)
        | (go_ret; exact ⟨rfl, HB2.out⟩)
        | exact bodyPost_ret (v := .int .i64 2) (by simp [results, Tryz.results142, go_sem]) rfl ⟨rfl, HB2.out⟩
  by_cases q2 : fl < 0
  case pos =>
    obtain rfl : R = 2 := by rw [HR.out]; simp [q0, q1, q2]
    clear HR 
    go_wp2_with fail
    all_goals
      first
        | (exfalso; omega)
        | (exfalso; simp only [decide_eq_true_eq, decide_eq_false_iff_not] at *; omega)
        | (go_ret; exact ⟨rfl, HB2.out⟩)
        | exact bodyPost_ret (v := .int .i64 2) (by simp [results, Tryz.results142, go_sem]) rfl ⟨rfl, HB2.out⟩
  by_cases q3 : 8 ≤ fl
  case pos =>
    obtain rfl : R = 2 := by rw [HR.out]; simp [q0, q1, q2, q3]
    clear HR 
    go_wp2_with fail
    all_goals
      first
        | (exfalso; omega)
        | (exfalso; simp only [decide_eq_true_eq, decide_eq_false_iff_not] at *; omega)
        | (go_ret; exact ⟨rfl, HB2.out⟩)
        | exact bodyPost_ret (v := .int .i64 2) (by simp [results, Tryz.results142, go_sem]) rfl ⟨rfl, HB2.out⟩
  clear HC
  by_cases p2 : kd = 0
  case neg =>
    have bp2 : (kd == 0) = false := by simpa using p2
    have hp2 := Lib.hid p2
    obtain rfl : R = 3 := by rw [HR.out]; simp [q0, q1, q2, q3, p2]
    clear HR p2
    go_wp2_with fail
    all_goals
      first
        | (exfalso; omega)
        | (exfalso; simp only [decide_eq_true_eq, decide_eq_false_iff_not] at *; omega)
        | (go_ret; exact ⟨rfl, HB2.out⟩)
        | exact bodyPost_ret (v := .int .i64 3) (by simp [results, Tryz.results142, go_sem]) rfl ⟨rfl, HB2.out⟩
  subst p2
  cases q with
  | false =>
    obtain rfl : R = 3 := by rw [HR.out]; simp [q0, q1, q2, q3]
    clear HR 
    go_wp2_with fail
    all_goals
      first
        | (exfalso; omega)
        | (exfalso; simp only [decide_eq_true_eq, decide_eq_false_iff_not] at *; omega)
        | (go_ret; exact ⟨rfl, HB2.out⟩)
        | exact bodyPost_ret (v := .int .i64 3) (by simp [results, Tryz.results142, go_sem]) rfl ⟨rfl, HB2.out⟩
  | true =>
    obtain rfl : R = 0 := by rw [HR.out]; simp [q0, q1, q2, q3]
    clear HR 
    go_wp2_with fail
    all_goals
      first
        | (exfalso; omega)
        | (exfalso; simp only [decide_eq_true_eq, decide_eq_false_iff_not] at *; omega)
        | (go_ret; exact ⟨rfl, HB2.out⟩)
        | exact bodyPost_ret (v := .int .i64 0) (by simp [results, Tryz.results142, go_sem]) rfl ⟨rfl, HB2.out⟩
set_option maxRecDepth 100000 in
set_option maxHeartbeats 4000000 in
theorem node_0 (x : Ex) (A : Option Addr) (c : Nat) (w : World) (h2 : x.op = 0) (hn : x.args.length ≤ 1048576) :
    Calls Tryz.prog 142 #[exV x (.slice A x.args.length c)] w fun e w' => e = .returned (.int .i64 (nodeE x)) ∧ Below w.heap.size w w' := by
  obtain ⟨op, l, vr, fl, kd, ⟨k0, n0, t0⟩⟩ := x
  obtain ⟨R, hR⟩ : ∃ R, nodeE (.mk op l vr fl kd ⟨k0, n0, t0⟩) = R := ⟨_, rfl⟩
  rw [hR]
  have HA := Lib.hid (arity_any op)
  have HS := Lib.hid (uses_any op)
  have HQ : Hid (∀ W, (binOp .neq 88 (.agg #[.int .i64 k0, .int .i64 n0, .string t0]) (.agg #[.int .i64 0, .int .i64 0, .string ⟨#[]⟩])).run Tryz.prog W = .ok (.bool (!vlEq ⟨k0, n0, t0⟩ zeroVl)) W) := Lib.hid (fun W => vl_neq2 ⟨k0, n0, t0⟩ zeroVl W)
  have HC := Lib.hid (fun (W : World) (h : op = 4 → 1 ≤ kd) => constants_any (.mk op l vr fl kd ⟨k0, n0, t0⟩) A l.length c W h)
  obtain ⟨q, hq⟩ : ∃ q, vlEq ⟨k0, n0, t0⟩ zeroVl = q := ⟨_, rfl⟩
  obtain ⟨z, hz⟩ : ∃ z, conE (.mk op l vr fl kd ⟨k0, n0, t0⟩) = z := ⟨_, rfl⟩
  rw [hq] at HQ
  rw [hz] at HC
  unfold exV at *
  simp only [Ex.op, Ex.vr, Ex.fl, Ex.kd, Ex.val, Ex.args] at *
  subst h2
  obtain ⟨n, hnl⟩ : ∃ n, l.length = n := ⟨_, rfl⟩
  rw [hnl] at hn HC ⊢
  have HR : Hid (R = if (n : Int) ≠ 0 then 15 else if z ≠ 0 then z else if vr ≠ 0 ∨ fl ≠ 0 ∨ kd ≠ 0 then 3 else 0) := Lib.hid (by rw [← hR, ← hnl, ← hz]; simp [nodeE, useP, arN, Ex.op, Ex.args, Ex.vr, Ex.fl, Ex.kd, Ex.val])
  clear hR hq hz hnl hn
  go_enter Tryz.func142, Tryz.ntmps142
  go_wp2_with fail
  refine (HA.out _).mono ?_
  rintro e w1 ⟨rfl, hb1⟩
  have hnew := (new_cells hb1).1
  have y0 : w1.cell? ⟨w.heap.size, 0, none⟩ = some (.int .i64 0) := by rw [hnew]; rfl
  have y1 : w1.cell? ⟨w.heap.size, 1, none⟩ = some (.slice A n c) := by rw [hnew]; rfl
  have y2 : w1.cell? ⟨w.heap.size, 2, none⟩ = some (.int .i64 vr) := by rw [hnew]; rfl
  have y3 : w1.cell? ⟨w.heap.size, 3, none⟩ = some (.int .i64 fl) := by rw [hnew]; rfl
  have y4 : w1.cell? ⟨w.heap.size, 4, none⟩ = some (.int .i64 kd) := by rw [hnew]; rfl
  have y5 : w1.cell? ⟨w.heap.size, 5, none⟩ = some (.int .i64 k0) := by rw [hnew]; rfl
  have y6 : w1.cell? ⟨w.heap.size, 6, none⟩ = some (.int .i64 n0) := by rw [hnew]; rfl
  have y7 : w1.cell? ⟨w.heap.size, 7, none⟩ = some (.string t0) := by rw [hnew]; rfl
  have HB1 := Lib.hid (bel_tr (bel_one w _) hb1)
  clear hnew hb1
  rw [show arP 0 = (0, true) from rfl]
  by_cases h0 : (n : Int) = 0
  case neg =>
    have h0' : ((n : Int) == 0) = false := by simpa using h0
    obtain rfl : R = 15 := by rw [HR.out, if_pos h0]
    clear HR h0
    go_wp2_with fail
    all_goals
      go_ret
      exact ⟨rfl, HB1.out⟩
  have H0 := Lib.hid h0
  obtain rfl : n = 0 := by omega
  clear h0 H0
  go_wp2_with fail
  refine (HS.out _).mono ?_
  rintro e w2 ⟨rfl, hb2⟩
  replace y0 := cell_stays hb2 y0
  replace y1 := cell_stays hb2 y1
  replace y2 := cell_stays hb2 y2
  replace y3 := cell_stays hb2 y3
  replace y4 := cell_stays hb2 y4
  replace y5 := cell_stays hb2 y5
  replace y6 := cell_stays hb2 y6
  replace y7 := cell_stays hb2 y7
  have HB2 := Lib.hid (bel_tr HB1.out hb2)
  rw [show useP 0 = (false, false) from rfl]
  have hQ := HQ.out
  clear HA HS HQ hb2
  go_wp2_with fail
  all_goals first | (exfalso; omega) | skip
  refine (HC.out _ (fun h => by omega)).mono ?_
  rintro e w3 ⟨rfl, hb3⟩
  replace y0 := cell_stays hb3 y0
  replace y2 := cell_stays hb3 y2
  replace y3 := cell_stays hb3 y3
  replace y4 := cell_stays hb3 y4
  replace y5 := cell_stays hb3 y5
  replace y6 := cell_stays hb3 y6
  replace y7 := cell_stays hb3 y7
  have HB3 := Lib.hid (bel_tr HB2.out hb3)
  clear hb3
  by_cases qz : z = 0
  case neg =>
    have bz : (z == 0) = false := by simpa using qz
    obtain rfl : R = z := by rw [HR.out]; simp [qz]
    clear HR qz
    go_wp2_with fail
    all_goals
      go_ret
      exact ⟨rfl, HB3.out⟩
  subst qz
  by_cases p0 : vr = 0
  case neg =>
    have bp0 : (vr == 0) = false := by simpa using p0
    have hp0 := Lib.hid p0
    obtain rfl : R = 3 := by rw [HR.out]; simp [p0]
    clear HR p0
    go_wp2_with fail
    all_goals
      first
        | (exfalso; omega)
        | (exfalso; simp only [decide_eq_true_eq, decide_eq_false_iff_not] at *; omega)
        | (go_ret; exact ⟨rfl, HB3.out⟩)
        | exact bodyPost_ret (v := .int .i64 3) (by simp [results, Tryz.results142, go_sem]) rfl ⟨rfl, HB3.out⟩
  subst p0
  by_cases p1 : fl = 0
  case neg =>
    have bp1 : (fl == 0) = false := by simpa using p1
    have hp1 := Lib.hid p1
    obtain rfl : R = 3 := by rw [HR.out]; simp [p1]
    clear HR p1
    go_wp2_with fail
    all_goals
      first
        | (exfalso; omega)
        | (exfalso; simp only [decide_eq_true_eq, decide_eq_false_iff_not] at *; omega)
        | (go_ret; exact ⟨rfl, HB3.out⟩)
        | exact bodyPost_ret (v := .int .i64 3) (by simp [results, Tryz.results142, go_sem]) rfl ⟨rfl, HB3.out⟩
  subst p1
  by_cases p2 : kd = 0
  case neg =>
    have bp2 : (kd == 0) = false := by simpa using p2
    have hp2 := Lib.hid p2
    obtain rfl : R = 3 := by rw [HR.out]; simp [p2]
    clear HR p2
    go_wp2_with fail
    all_goals
      first
        | (exfalso; omega)
        | (exfalso; simp only [decide_eq_true_eq, decide_eq_false_iff_not] at *; omega)
        | (go_ret; exact ⟨rfl, HB3.out⟩)
        | exact bodyPost_ret (v := .int .i64 3) (by simp [results, Tryz.results142, go_sem]) rfl ⟨rfl, HB3.out⟩
  subst p2
  obtain rfl : R = 0 := by rw [HR.out]; simp []
  clear HR 
  go_wp2_with fail
  all_goals
    first
      | (exfalso; omega)
      | (exfalso; simp only [decide_eq_true_eq, decide_eq_false_iff_not] at *; omega)
      | (go_ret; exact ⟨rfl, HB3.out⟩)
      | exact bodyPost_ret (v := .int .i64 0) (by simp [results, Tryz.results142, go_sem]) rfl ⟨rfl, HB3.out⟩
set_option maxRecDepth 100000 in
set_option maxHeartbeats 4000000 in
theorem node_4 (x : Ex) (A : Option Addr) (c : Nat) (w : World) (h2 : x.op = 4) (hn : x.args.length ≤ 1048576) :
    Calls Tryz.prog 142 #[exV x (.slice A x.args.length c)] w fun e w' => e = .returned (.int .i64 (nodeE x)) ∧ Below w.heap.size w w' := by
  obtain ⟨op, l, vr, fl, kd, ⟨k0, n0, t0⟩⟩ := x
  obtain ⟨R, hR⟩ : ∃ R, nodeE (.mk op l vr fl kd ⟨k0, n0, t0⟩) = R := ⟨_, rfl⟩
  rw [hR]
  have HA := Lib.hid (arity_any op)
  have HS := Lib.hid (uses_any op)
  have HQ : Hid (∀ W, (binOp .neq 88 (.agg #[.int .i64 k0, .int .i64 n0, .string t0]) (.agg #[.int .i64 0, .int .i64 0, .string ⟨#[]⟩])).run Tryz.prog W = .ok (.bool (!vlEq ⟨k0, n0, t0⟩ zeroVl)) W) := Lib.hid (fun W => vl_neq2 ⟨k0, n0, t0⟩ zeroVl W)
  have HC := Lib.hid (fun (W : World) (h : op = 4 → 1 ≤ kd) => constants_any (.mk op l vr fl kd ⟨k0, n0, t0⟩) A l.length c W h)
  obtain ⟨q, hq⟩ : ∃ q, vlEq ⟨k0, n0, t0⟩ zeroVl = q := ⟨_, rfl⟩
  obtain ⟨z, hz⟩ : ∃ z, conE (.mk op l vr fl kd ⟨k0, n0, t0⟩) = z := ⟨_, rfl⟩
  rw [hq] at HQ
  rw [hz] at HC
  unfold exV at *
  simp only [Ex.op, Ex.vr, Ex.fl, Ex.kd, Ex.val, Ex.args] at *
  subst h2
  obtain ⟨n, hnl⟩ : ∃ n, l.length = n := ⟨_, rfl⟩
  rw [hnl] at hn HC ⊢
  have HR : Hid (R = if (n : Int) ≠ 0 then 15 else if (vr < 0 ∨ 16 ≤ vr) ∨ fl < 0 ∨ 8 ≤ fl then 2 else if kd < 1 ∨ 5 < kd then 1 else if z ≠ 0 then z else 0) := Lib.hid (by rw [← hR, ← hnl, ← hz]; simp [nodeE, useP, arN, Ex.op, Ex.args, Ex.vr, Ex.fl, Ex.kd, Ex.val, or_assoc])
  clear hR hq hz hnl hn
  go_enter Tryz.func142, Tryz.ntmps142
  go_wp2_with fail
  refine (HA.out _).mono ?_
  rintro e w1 ⟨rfl, hb1⟩
  have hnew := (new_cells hb1).1
  have y0 : w1.cell? ⟨w.heap.size, 0, none⟩ = some (.int .i64 4) := by rw [hnew]; rfl
  have y1 : w1.cell? ⟨w.heap.size, 1, none⟩ = some (.slice A n c) := by rw [hnew]; rfl
  have y2 : w1.cell? ⟨w.heap.size, 2, none⟩ = some (.int .i64 vr) := by rw [hnew]; rfl
  have y3 : w1.cell? ⟨w.heap.size, 3, none⟩ = some (.int .i64 fl) := by rw [hnew]; rfl
  have y4 : w1.cell? ⟨w.heap.size, 4, none⟩ = some (.int .i64 kd) := by rw [hnew]; rfl
  have y5 : w1.cell? ⟨w.heap.size, 5, none⟩ = some (.int .i64 k0) := by rw [hnew]; rfl
  have y6 : w1.cell? ⟨w.heap.size, 6, none⟩ = some (.int .i64 n0) := by rw [hnew]; rfl
  have y7 : w1.cell? ⟨w.heap.size, 7, none⟩ = some (.string t0) := by rw [hnew]; rfl
  have HB1 := Lib.hid (bel_tr (bel_one w _) hb1)
  clear hnew hb1
  rw [show arP 4 = (0, true) from rfl]
  by_cases h0 : (n : Int) = 0
  case neg =>
    have h0' : ((n : Int) == 0) = false := by simpa using h0
    obtain rfl : R = 15 := by rw [HR.out, if_pos h0]
    clear HR h0
    go_wp2_with fail
    all_goals
      go_ret
      exact ⟨rfl, HB1.out⟩
  have H0 := Lib.hid h0
  obtain rfl : n = 0 := by omega
  clear h0 H0
  go_wp2_with fail
  refine (HS.out _).mono ?_
  rintro e w2 ⟨rfl, hb2⟩
  replace y0 := cell_stays hb2 y0
  replace y1 := cell_stays hb2 y1
  replace y2 := cell_stays hb2 y2
  replace y3 := cell_stays hb2 y3
  replace y4 := cell_stays hb2 y4
  replace y5 := cell_stays hb2 y5
  replace y6 := cell_stays hb2 y6
  replace y7 := cell_stays hb2 y7
  have HB2 := Lib.hid (bel_tr HB1.out hb2)
  rw [show useP 4 = (true, true) from rfl]
  have hQ := HQ.out
  clear HA HS HQ hb2
  by_cases q0 : vr < 0
  case pos =>
    obtain rfl : R = 2 := by rw [HR.out]; simp [q0]
    clear HR 
    go_wp2_with fail
    all_goals
      first
        | (exfalso; omega)
        | (exfalso; simp only [decide_eq_true_eq, decide_eq_false_iff_not] at *; omega)
        | (go_ret; exact ⟨rfl, HB2.out⟩)
        | exact bodyPost_ret (v := .int .i64 2) (by simp [results, Tryz.results142, go_sem]) rfl ⟨rfl, HB2.out⟩
  by_cases q1 : 16 ≤ vr
  case pos =>
    obtain rfl : R = 2 := by rw [HR.out]; simp [q0, q1]
    clear HR 
    go_wp2_with fail
    all_goals
      first
        | (exfalso; omega)
        | (exfalso; simp only [decide_eq_true_eq, decide_eq_false_iff_not] at *; omega)
        | (go_ret; exact ⟨rfl, HB2.out⟩)
        | exact bodyPost_ret (v := .int .i64 2) (by simp [results, Tryz.results142, go_sem]) rfl ⟨rfl, HB2.out⟩
  by_cases q2 : fl < 0
  case pos =>
    obtain rfl : R = 2 := by rw [HR.out]; simp [q0, q1, q2]
    clear HR 
    go_wp2_with fail
    all_goals
      first
        | (exfalso; omega)
        | (exfalso; simp only [decide_eq_true_eq, decide_eq_false_iff_not] at *; omega)
        | (go_ret; exact ⟨rfl, HB2.out⟩)
        | exact bodyPost_ret (v := .int .i64 2) (by simp [results, Tryz.results142, go_sem]) rfl ⟨rfl, HB2.out⟩
  by_cases q3 : 8 ≤ fl
  case pos =>
    obtain rfl : R = 2 := by rw [HR.out]; simp [q0, q1, q2, q3]
    clear HR 
    go_wp2_with fail
    all_goals
      first
        | (exfalso; omega)
        | (exfalso; simp only [decide_eq_true_eq, decide_eq_false_iff_not] at *; omega)
        | (go_ret; exact ⟨rfl, HB2.out⟩)
        | exact bodyPost_ret (v := .int .i64 2) (by simp [results, Tryz.results142, go_sem]) rfl ⟨rfl, HB2.out⟩
  by_cases q4 : kd < 1
  case pos =>
    obtain rfl : R = 1 := by rw [HR.out]; simp [q0, q1, q2, q3, q4]
    clear HR 
    go_wp2_with fail
    all_goals
      first
        | (exfalso; omega)
        | (exfalso; simp only [decide_eq_true_eq, decide_eq_false_iff_not] at *; omega)
        | (go_ret; exact ⟨rfl, HB2.out⟩)
        | exact bodyPost_ret (v := .int .i64 1) (by simp [results, Tryz.results142, go_sem]) rfl ⟨rfl, HB2.out⟩
  by_cases q5 : 5 < kd
  case pos =>
    obtain rfl : R = 1 := by rw [HR.out]; simp [q0, q1, q2, q3, q4, q5]
    clear HR 
    go_wp2_with fail
    all_goals
      first
        | (exfalso; omega)
        | (exfalso; simp only [decide_eq_true_eq, decide_eq_false_iff_not] at *; omega)
        | (go_ret; exact ⟨rfl, HB2.out⟩)
        | exact bodyPost_ret (v := .int .i64 1) (by simp [results, Tryz.results142, go_sem]) rfl ⟨rfl, HB2.out⟩
  go_wp2_with fail
  all_goals first | (exfalso; omega) | skip
  refine (HC.out _ (fun _ => by omega)).mono ?_
  rintro e w3 ⟨rfl, hb3⟩
  replace y0 := cell_stays hb3 y0
  replace y2 := cell_stays hb3 y2
  replace y3 := cell_stays hb3 y3
  replace y4 := cell_stays hb3 y4
  replace y5 := cell_stays hb3 y5
  replace y6 := cell_stays hb3 y6
  replace y7 := cell_stays hb3 y7
  have HB3 := Lib.hid (bel_tr HB2.out hb3)
  clear hb3
  by_cases qz : z = 0
  case neg =>
    have bz : (z == 0) = false := by simpa using qz
    obtain rfl : R = z := by rw [HR.out]; rw [if_neg (by omega), if_neg (by omega), if_neg (by omega)]; simp [qz]
    clear HR qz
    go_wp2_with fail
    all_goals
      go_ret
      exact ⟨rfl, HB3.out⟩
  subst qz
  obtain rfl : R = 0 := by rw [HR.out]; rw [if_neg (by omega), if_neg (by omega), if_neg (by omega)]; simp
  clear HR 
  go_wp2_with fail
  all_goals
    first
      | (exfalso; omega)
      | (exfalso; simp only [decide_eq_true_eq, decide_eq_false_iff_not] at *; omega)
      | (go_ret; exact ⟨rfl, HB3.out⟩)
      | exact bodyPost_ret (v := .int .i64 0) (by simp [results, Tryz.results142, go_sem]) rfl ⟨rfl, HB3.out⟩
set_option maxRecDepth 100000 in
set_option maxHeartbeats 4000000 in
theorem node_g (x : Ex) (A : Option Addr) (c : Nat) (w : World) (m : Int) (h2 : arP x.op = (m, true)) (h3 : arN x.op = m) (h4 : useP x.op = (false, false)) (h5 : x.op ≠ 4) (h6 : x.op ≠ 0) (hm : 0 ≤ m) (hn : x.args.length ≤ 1048576) :
    Calls Tryz.prog 142 #[exV x (.slice A x.args.length c)] w fun e w' => e = .returned (.int .i64 (nodeE x)) ∧ Below w.heap.size w w' := by
  obtain ⟨op, l, vr, fl, kd, ⟨k0, n0, t0⟩⟩ := x
  obtain ⟨R, hR⟩ : ∃ R, nodeE (.mk op l vr fl kd ⟨k0, n0, t0⟩) = R := ⟨_, rfl⟩
  rw [hR]
  have HA := Lib.hid (arity_any op)
  have HS := Lib.hid (uses_any op)
  have HQ : Hid (∀ W, (binOp .neq 88 (.agg #[.int .i64 k0, .int .i64 n0, .string t0]) (.agg #[.int .i64 0, .int .i64 0, .string ⟨#[]⟩])).run Tryz.prog W = .ok (.bool (!vlEq ⟨k0, n0, t0⟩ zeroVl)) W) := Lib.hid (fun W => vl_neq2 ⟨k0, n0, t0⟩ zeroVl W)
  have HC := Lib.hid (fun (W : World) (h : op = 4 → 1 ≤ kd) => constants_any (.mk op l vr fl kd ⟨k0, n0, t0⟩) A l.length c W h)
  obtain ⟨q, hq⟩ : ∃ q, vlEq ⟨k0, n0, t0⟩ zeroVl = q := ⟨_, rfl⟩
  obtain ⟨z, hz⟩ : ∃ z, conE (.mk op l vr fl kd ⟨k0, n0, t0⟩) = z := ⟨_, rfl⟩
  rw [hq] at HQ
  rw [hz] at HC
  unfold exV at *
  simp only [Ex.op, Ex.vr, Ex.fl, Ex.kd, Ex.val, Ex.args] at *
  obtain ⟨n, hnl⟩ : ∃ n, l.length = n := ⟨_, rfl⟩
  rw [hnl] at hn HC ⊢
  have HR : Hid (R = if (n : Int) ≠ m then 15 else if vr ≠ 0 ∨ fl ≠ 0 ∨ kd ≠ 0 ∨ q = false then 3 else 0) := Lib.hid (by rw [← hR, ← hq, ← hnl]; unfold nodeE; simp only [Ex.op, Ex.args, Ex.vr, Ex.fl, Ex.kd, Ex.val, h3, h4]; rw [if_neg (by omega)]; simp [h5, h6])
  have b4 : (op == 4) = false := by simpa using h5
  have b0 : (op == 0) = false := by simpa using h6
  have H2 := Lib.hid h2
  have H4 := Lib.hid h4
  clear h2 h3 h4 h5 h6 hm
  clear hR hq hz hnl hn
  go_enter Tryz.func142, Tryz.ntmps142
  go_wp2_with fail
  refine (HA.out _).mono ?_
  rintro e w1 ⟨rfl, hb1⟩
  have hnew := (new_cells hb1).1
  have y0 : w1.cell? ⟨w.heap.size, 0, none⟩ = some (.int .i64 op) := by rw [hnew]; rfl
  have y1 : w1.cell? ⟨w.heap.size, 1, none⟩ = some (.slice A n c) := by rw [hnew]; rfl
  have y2 : w1.cell? ⟨w.heap.size, 2, none⟩ = some (.int .i64 vr) := by rw [hnew]; rfl
  have y3 : w1.cell? ⟨w.heap.size, 3, none⟩ = some (.int .i64 fl) := by rw [hnew]; rfl
  have y4 : w1.cell? ⟨w.heap.size, 4, none⟩ = some (.int .i64 kd) := by rw [hnew]; rfl
  have y5 : w1.cell? ⟨w.heap.size, 5, none⟩ = some (.int .i64 k0) := by rw [hnew]; rfl
  have y6 : w1.cell? ⟨w.heap.size, 6, none⟩ = some (.int .i64 n0) := by rw [hnew]; rfl
  have y7 : w1.cell? ⟨w.heap.size, 7, none⟩ = some (.string t0) := by rw [hnew]; rfl
  have HB1 := Lib.hid (bel_tr (bel_one w _) hb1)
  clear hnew hb1
  rw [H2.out]
  by_cases h0 : (n : Int) = m
  case neg =>
    have h0' : ((n : Int) == m) = false := by simpa using h0
    obtain rfl : R = 15 := by rw [HR.out, if_pos h0]
    clear HR h0
    go_wp2_with fail
    all_goals
      go_ret
      exact ⟨rfl, HB1.out⟩
  have H0 := Lib.hid h0
  subst h0
  clear H0
  go_wp2_with fail
  refine (HS.out _).mono ?_
  rintro e w2 ⟨rfl, hb2⟩
  replace y0 := cell_stays hb2 y0
  replace y1 := cell_stays hb2 y1
  replace y2 := cell_stays hb2 y2
  replace y3 := cell_stays hb2 y3
  replace y4 := cell_stays hb2 y4
  replace y5 := cell_stays hb2 y5
  replace y6 := cell_stays hb2 y6
  replace y7 := cell_stays hb2 y7
  have HB2 := Lib.hid (bel_tr HB1.out hb2)
  rw [H4.out]
  have hQ := HQ.out
  clear HA HS HQ hb2
  clear HC
  by_cases p0 : vr = 0
  case neg =>
    have bp0 : (vr == 0) = false := by simpa using p0
    have hp0 := Lib.hid p0
    obtain rfl : R = 3 := by rw [HR.out]; simp [p0]
    clear HR p0
    go_wp2_with fail
    all_goals
      first
        | (exfalso; omega)
        | (exfalso; simp only [decide_eq_true_eq, decide_eq_false_iff_not] at *; omega)
        | (go_ret; exact ⟨rfl, HB2.out⟩)
        | exact bodyPost_ret (v := .int .i64 3) (by simp [results, Tryz.results142, go_sem]) rfl ⟨rfl, HB2.out⟩
  subst p0
  by_cases p1 : fl = 0
  case neg =>
    have bp1 : (fl == 0) = false := by simpa using p1
    have hp1 := Lib.hid p1
    obtain rfl : R = 3 := by rw [HR.out]; simp [p1]
    clear HR p1
    go_wp2_with fail
    all_goals
      first
        | (exfalso; omega)
        | (exfalso; simp only [decide_eq_true_eq, decide_eq_false_iff_not] at *; omega)
        | (go_ret; exact ⟨rfl, HB2.out⟩)
        | exact bodyPost_ret (v := .int .i64 3) (by simp [results, Tryz.results142, go_sem]) rfl ⟨rfl, HB2.out⟩
  subst p1
  by_cases p2 : kd = 0
  case neg =>
    have bp2 : (kd == 0) = false := by simpa using p2
    have hp2 := Lib.hid p2
    obtain rfl : R = 3 := by rw [HR.out]; simp [p2]
    clear HR p2
    go_wp2_with fail
    all_goals
      first
        | (exfalso; omega)
        | (exfalso; simp only [decide_eq_true_eq, decide_eq_false_iff_not] at *; omega)
        | (go_ret; exact ⟨rfl, HB2.out⟩)
        | exact bodyPost_ret (v := .int .i64 3) (by simp [results, Tryz.results142, go_sem]) rfl ⟨rfl, HB2.out⟩
  subst p2
  cases q with
  | false =>
    obtain rfl : R = 3 := by rw [HR.out]; simp []
    clear HR 
    go_wp2_with fail
    all_goals
      first
        | (exfalso; omega)
        | (exfalso; simp only [decide_eq_true_eq, decide_eq_false_iff_not] at *; omega)
        | (go_ret; exact ⟨rfl, HB2.out⟩)
        | exact bodyPost_ret (v := .int .i64 3) (by simp [results, Tryz.results142, go_sem]) rfl ⟨rfl, HB2.out⟩
  | true =>
    obtain rfl : R = 0 := by rw [HR.out]; simp []
    clear HR 
    go_wp2_with fail
    all_goals
      first
        | (exfalso; omega)
        | (exfalso; simp only [decide_eq_true_eq, decide_eq_false_iff_not] at *; omega)
        | (go_ret; exact ⟨rfl, HB2.out⟩)
        | exact bodyPost_ret (v := .int .i64 0) (by simp [results, Tryz.results142, go_sem]) rfl ⟨rfl, HB2.out⟩
theorem node_any (x : Ex) (A : Option Addr) (c : Nat) (w : World) (hn : x.args.length ≤ 1048576) :
    Calls Tryz.prog 142 #[exV x (.slice A x.args.length c)] w fun e w' => e = .returned (.int .i64 (nodeE x)) ∧ Below w.heap.size w w' := by
  by_cases h2 : x.op = 2
  · exact node_2 x A c w h2 hn
  by_cases h3 : x.op = 3
  · exact node_3 x A c w h3 hn
  by_cases h1 : x.op = 1
  · exact node_1 x A c w h1 hn
  by_cases h0 : x.op = 0
  · exact node_0 x A c w h0 hn
  by_cases h4 : x.op = 4
  · exact node_4 x A c w h4 hn
  by_cases h5 : 5 ≤ x.op ∧ x.op ≤ 12
  · refine node_g x A c w (arN x.op) ?_ rfl ?_ h4 h0 ?_ hn
    · unfold arP; rw [if_neg (by omega)]
    · unfold useP; rw [if_neg (by omega), if_neg (by omega)]
    · unfold arN; rw [if_neg (by omega)]; split <;> (try split) <;> omega
  · exact node_bad x A x.args.length c w (by omega)
end Go.Proofs.YtclpglgigpjfoaaGreatDoor
namespace Go.Proofs.YtclpglgigpjfoaaGreatDoor
open Go.RowKit
set_option maxRecDepth 100000 in
set_option maxHeartbeats 2000000 in
theorem rnode_bad (x : Ex) (A : Option Addr) (n c : Nat) (w : World) (h : x.op < 0 ∨ 12 < x.op) :
    Calls Tryz.prog 175 #[exV x (.slice A n c)] w fun e w' => e = .returned (.int .i64 (nodeE x)) ∧ Below w.heap.size w w' := by
  have hE : nodeE x = 1 := by unfold nodeE; rw [if_pos (by unfold arN; rw [if_pos h]; omega)]
  rw [hE]
  have HA := Lib.hid (rarity_any x.op)
  rw [show arN x.op = -1 by unfold arN; rw [if_pos h]] at HA
  clear hE h
  unfold exV
  go_enter Tryz.func175, Tryz.ntmps175
  go_wp2_with fail
  refine (HA.out _).mono ?_
  rintro e w1 ⟨rfl, hb1⟩
  go_wp2_with fail
  go_ret
  exact ⟨rfl, bel_tr (bel_one w _) hb1⟩
set_option maxRecDepth 100000 in
set_option maxHeartbeats 4000000 in
theorem rnode_2 (x : Ex) (A : Option Addr) (c : Nat) (w : World) (h2 : x.op = 2) (hn : x.args.length ≤ 1048576) :
    Calls Tryz.prog 175 #[exV x (.slice A x.args.length c)] w fun e w' => e = .returned (.int .i64 (nodeE x)) ∧ Below w.heap.size w w' := by
  obtain ⟨op, l, vr, fl, kd, ⟨k0, n0, t0⟩⟩ := x
  obtain ⟨R, hR⟩ : ∃ R, nodeE (.mk op l vr fl kd ⟨k0, n0, t0⟩) = R := ⟨_, rfl⟩
  rw [hR]
  have HA := Lib.hid (rarity_any op)
  have HS := Lib.hid (ruses_any op)
  have HQ : Hid (∀ W, (binOp .neq 88 (.agg #[.int .i64 k0, .int .i64 n0, .string t0]) (.agg #[.int .i64 0, .int .i64 0, .string ⟨#[]⟩])).run Tryz.prog W = .ok (.bool (!vlEq ⟨k0, n0, t0⟩ zeroVl)) W) := Lib.hid (fun W => vl_neq2 ⟨k0, n0, t0⟩ zeroVl W)
  have HC := Lib.hid (fun (W : World) (_ : True) => rvcheck_any ⟨k0, n0, t0⟩ W)
  have HU := Lib.hid (fun (W : World) => rsuits_any kd ⟨k0, n0, t0⟩ W)
  obtain ⟨b, hbs⟩ : ∃ b, sutB kd ⟨k0, n0, t0⟩ = b := ⟨_, rfl⟩
  rw [hbs] at HU
  obtain ⟨q, hq⟩ : ∃ q, vlEq ⟨k0, n0, t0⟩ zeroVl = q := ⟨_, rfl⟩
  obtain ⟨z, hz⟩ : ∃ z, valE ⟨k0, n0, t0⟩ = z := ⟨_, rfl⟩
  rw [hq] at HQ
  rw [hz] at HC
  unfold exV vlV at *
  simp only [Ex.op, Ex.vr, Ex.fl, Ex.kd, Ex.val, Ex.args] at *
  subst h2
  obtain ⟨n, hnl⟩ : ∃ n, l.length = n := ⟨_, rfl⟩
  rw [hnl] at hn ⊢
  have HR : Hid (R = if (n : Int) ≠ 0 then 15 else if (vr < 0 ∨ 16 ≤ vr) then 2 else if fl ≠ 0 ∨ kd ≠ 0 ∨ q = false then 3 else 0) := Lib.hid (by rw [← hR, ← hq, ← hnl]; simp [nodeE, useP, arN, Ex.op, Ex.args, Ex.vr, Ex.fl, Ex.kd, Ex.val])
  clear hR hq hz hnl hn hbs
  go_enter Tryz.func175, Tryz.ntmps175
  go_wp2_with fail
  refine (HA.out _).mono ?_
  rintro e w1 ⟨rfl, hb1⟩
  have hnew := (new_cells hb1).1
  have y0 : w1.cell? ⟨w.heap.size, 0, none⟩ = some (.int .i64 2) := by rw [hnew]; rfl
  have y1 : w1.cell? ⟨w.heap.size, 1, none⟩ = some (.slice A n c) := by rw [hnew]; rfl
  have y2 : w1.cell? ⟨w.heap.size, 2, none⟩ = some (.int .i64 vr) := by rw [hnew]; rfl
  have y3 : w1.cell? ⟨w.heap.size, 3, none⟩ = some (.int .i64 fl) := by rw [hnew]; rfl
  have y4 : w1.cell? ⟨w.heap.size, 4, none⟩ = some (.int .i64 kd) := by rw [hnew]; rfl
  have y5 : w1.cell? ⟨w.heap.size, 5, none⟩ = some (.int .i64 k0) := by rw [hnew]; rfl
  have y6 : w1.cell? ⟨w.heap.size, 6, none⟩ = some (.int .i64 n0) := by rw [hnew]; rfl
  have y7 : w1.cell? ⟨w.heap.size, 7, none⟩ = some (.string t0) := by rw [hnew]; rfl
  have HB1 := Lib.hid (bel_tr (bel_one w _) hb1)
  clear hnew hb1
  rw [show arN 2 = 0 from rfl]
  by_cases h0 : (n : Int) = 0
  case neg =>
    have h0' : ((n : Int) == 0) = false := by simpa using h0
    obtain rfl : R = 15 := by rw [HR.out, if_pos h0]
    clear HR h0
    go_wp2_with fail
    all_goals
      go_ret
      exact ⟨rfl, HB1.out⟩
  have H0 := Lib.hid h0
  obtain rfl : n = 0 := by omega
  clear h0 H0
  go_wp2_with fail
  refine (HS.out _).mono ?_
  rintro e w2 ⟨rfl, hb2⟩
  replace y0 := cell_stays hb2 y0
  replace y1 := cell_stays hb2 y1
  replace y2 := cell_stays hb2 y2
  replace y3 := cell_stays hb2 y3
  replace y4 := cell_stays hb2 y4
  replace y5 := cell_stays hb2 y5
  replace y6 := cell_stays hb2 y6
  replace y7 := cell_stays hb2 y7
  have HB2 := Lib.hid (bel_tr HB1.out hb2)
  rw [show useP 2 = (true, false) from rfl]
  have hQ := HQ.out
  clear HA HS HQ hb2
  by_cases q0 : vr < 0
  case pos =>
    obtain rfl : R = 2 := by rw [HR.out]; simp [q0]
    clear HR 
    go_wp2_with fail
    all_goals
      first
        | (exfalso; omega)
        | (exfalso; simp only [decide_eq_true_eq, decide_eq_false_iff_not] at *; omega)
        | (go_ret; exact ⟨rfl, HB2.out⟩)
        | exact bodyPost_ret (v := .int .i64 2) (by simp [results, Tryz.results175, go_sem]) rfl ⟨rfl, HB2.out⟩
  by_cases q1 : 16 ≤ vr
  case pos =>
    obtain rfl : R = 2 := by rw [HR.out]; simp [q0, q1]
    clear HR 
    go_wp2_with fail
    all_goals
      first
        | (exfalso; omega)
        | (exfalso; simp only [decide_eq_true_eq, decide_eq_false_iff_not] at *; omega)
        | (go_ret; exact ⟨rfl, HB2.out⟩)
        | exact bodyPost_ret (v := .int .i64 2) (by simp [results, Tryz.results175, go_sem]) rfl ⟨rfl, HB2.out⟩
  clear HC HU
  by_cases p1 : fl = 0
  case neg =>
    have bp1 : (fl == 0) = false := by simpa using p1
    have hp1 := Lib.hid p1
    obtain rfl : R = 3 := by rw [HR.out]; simp [q0, q1, p1]
    clear HR p1
    go_wp2_with fail
    all_goals
      first
        | (exfalso; omega)
        | (exfalso; simp only [decide_eq_true_eq, decide_eq_false_iff_not] at *; omega)
        | (go_ret; exact ⟨rfl, HB2.out⟩)
        | exact bodyPost_ret (v := .int .i64 3) (by simp [results, Tryz.results175, go_sem]) rfl ⟨rfl, HB2.out⟩
  subst p1
  by_cases p2 : kd = 0
  case neg =>
    have bp2 : (kd == 0) = false := by simpa using p2
    have hp2 := Lib.hid p2
    obtain rfl : R = 3 := by rw [HR.out]; simp [q0, q1, p2]
    clear HR p2
    go_wp2_with fail
    all_goals
      first
        | (exfalso; omega)
        | (exfalso; simp only [decide_eq_true_eq, decide_eq_false_iff_not] at *; omega)
        | (go_ret; exact ⟨rfl, HB2.out⟩)
        | exact bodyPost_ret (v := .int .i64 3) (by simp [results, Tryz.results175, go_sem]) rfl ⟨rfl, HB2.out⟩
  subst p2
  cases q with
  | false =>
    obtain rfl : R = 3 := by rw [HR.out]; simp [q0, q1]
    clear HR 
    go_wp2_with fail
    all_goals
      first
        | (exfalso; omega)
        | (exfalso; simp only [decide_eq_true_eq, decide_eq_false_iff_not] at *; omega)
        | (go_ret; exact ⟨rfl, HB2.out⟩)
        | exact bodyPost_ret (v := .int .i64 3) (by simp [results, Tryz.results175, go_sem]) rfl ⟨rfl, HB2.out⟩
  | true =>
    obtain rfl : R = 0 := by rw [HR.out]; simp [q0, q1]
    clear HR 
    go_wp2_with fail
    all_goals
      first
        | (exfalso; omega)
        | (exfalso; simp only [decide_eq_true_eq, decide_eq_false_iff_not] at *; omega)
        | (go_ret; exact ⟨rfl, HB2.out⟩)
        | exact bodyPost_ret (v := .int .i64 0) (by simp [results, Tryz.results175, go_sem]) rfl ⟨rfl, HB2.out⟩
set_option maxRecDepth 100000 in
set_option maxHeartbeats 4000000 in
theorem rnode_3 (x : Ex) (A : Option Addr) (c : Nat) (w : World) (h2 : x.op = 3) (hn : x.args.length ≤ 1048576) :
    Calls Tryz.prog 175 #[exV x (.slice A x.args.length c)] w fun e w' => e = .returned (.int .i64 (nodeE x)) ∧ Below w.heap.size w w' := by
  obtain ⟨op, l, vr, fl, kd, ⟨k0, n0, t0⟩⟩ := x
  obtain ⟨R, hR⟩ : ∃ R, nodeE (.mk op l vr fl kd ⟨k0, n0, t0⟩) = R := ⟨_, rfl⟩
  rw [hR]
  have HA := Lib.hid (rarity_any op)
  have HS := Lib.hid (ruses_any op)
  have HQ : Hid (∀ W, (binOp .neq 88 (.agg #[.int .i64 k0, .int .i64 n0, .string t0]) (.agg #[.int .i64 0, .int .i64 0, .string ⟨#[]⟩])).run Tryz.prog W = .ok (.bool (!vlEq ⟨k0, n0, t0⟩ zeroVl)) W) := Lib.hid (fun W => vl_neq2 ⟨k0, n0, t0⟩ zeroVl W)
  have HC := Lib.hid (fun (W : World) (_ : True) => rvcheck_any ⟨k0, n0, t0⟩ W)
  have HU := Lib.hid (fun (W : World) => rsuits_any kd ⟨k0, n0, t0⟩ W)
  obtain ⟨b, hbs⟩ : ∃ b, sutB kd ⟨k0, n0, t0⟩ = b := ⟨_, rfl⟩
  rw [hbs] at HU
  obtain ⟨q, hq⟩ : ∃ q, vlEq ⟨k0, n0, t0⟩ zeroVl = q := ⟨_, rfl⟩
  obtain ⟨z, hz⟩ : ∃ z, valE ⟨k0, n0, t0⟩ = z := ⟨_, rfl⟩
  rw [hq] at HQ
  rw [hz] at HC
  unfold exV vlV at *
  simp only [Ex.op, Ex.vr, Ex.fl, Ex.kd, Ex.val, Ex.args] at *
  subst h2
  obtain ⟨n, hnl⟩ : ∃ n, l.length = n := ⟨_, rfl⟩
  rw [hnl] at hn ⊢
  have HR : Hid (R = if (n : Int) ≠ 0 then 15 else if (vr < 0 ∨ 16 ≤ vr) then 2 else if fl ≠ 0 ∨ kd ≠ 0 ∨ q = false then 3 else 0) := Lib.hid (by rw [← hR, ← hq, ← hnl]; simp [nodeE, useP, arN, Ex.op, Ex.args, Ex.vr, Ex.fl, Ex.kd, Ex.val])
  clear hR hq hz hnl hn hbs
  go_enter Tryz.func175, Tryz.ntmps175
  go_wp2_with fail
  refine (HA.out _).mono ?_
  rintro e w1 ⟨rfl, hb1⟩
  have hnew := (new_cells hb1).1
  have y0 : w1.cell? ⟨w.heap.size, 0, none⟩ = some (.int .i64 3) := by rw [hnew]; rfl
  have y1 : w1.cell? ⟨w.heap.size, 1, none⟩ = some (.slice A n c) := by rw [hnew]; rfl
  have y2 : w1.cell? ⟨w.heap.size, 2, none⟩ = some (.int .i64 vr) := by rw [hnew]; rfl
  have y3 : w1.cell? ⟨w.heap.size, 3, none⟩ = some (.int .i64 fl) := by rw [hnew]; rfl
  have y4 : w1.cell? ⟨w.heap.size, 4, none⟩ = some (.int .i64 kd) := by rw [hnew]; rfl
  have y5 : w1.cell? ⟨w.heap.size, 5, none⟩ = some (.int .i64 k0) := by rw [hnew]; rfl
  have y6 : w1.cell? ⟨w.heap.size, 6, none⟩ = some (.int .i64 n0) := by rw [hnew]; rfl
  have y7 : w1.cell? ⟨w.heap.size, 7, none⟩ = some (.string t0) := by rw [hnew]; rfl
  have HB1 := Lib.hid (bel_tr (bel_one w _) hb1)
  clear hnew hb1
  rw [show arN 3 = 0 from rfl]
  by_cases h0 : (n : Int) = 0
  case neg =>
    have h0' : ((n : Int) == 0) = false := by simpa using h0
    obtain rfl : R = 15 := by rw [HR.out, if_pos h0]
    clear HR h0
    go_wp2_with fail
    all_goals
      go_ret
      exact ⟨rfl, HB1.out⟩
  have H0 := Lib.hid h0
  obtain rfl : n = 0 := by omega
  clear h0 H0
  go_wp2_with fail
  refine (HS.out _).mono ?_
  rintro e w2 ⟨rfl, hb2⟩
  replace y0 := cell_stays hb2 y0
  replace y1 := cell_stays hb2 y1
  replace y2 := cell_stays hb2 y2
  replace y3 := cell_stays hb2 y3
  replace y4 := cell_stays hb2 y4
  replace y5 := cell_stays hb2 y5
  replace y6 := cell_stays hb2 y6
  replace y7 := cell_stays hb2 y7
  have HB2 := Lib.hid (bel_tr HB1.out hb2)
  rw [show useP 3 = (true, false) from rfl]
  have hQ := HQ.out
  clear HA HS HQ hb2
  by_cases q0 : vr < 0
  case pos =>
    obtain rfl : R = 2 := by rw [HR.out]; simp [q0]
    clear HR 
    go_wp2_with fail
    all_goals
      first
        | (exfalso; omega)
        | (exfalso; simp only [decide_eq_true_eq, decide_eq_false_iff_not] at *; omega)
        | (go_ret; exact ⟨rfl, HB2.out⟩)
        | exact bodyPost_ret (v := .int .i64 2) (by simp [results, Tryz.results175, go_sem]) rfl ⟨rfl, HB2.out⟩
  by_cases q1 : 16 ≤ vr
  case pos =>
    obtain rfl : R = 2 := by rw [HR.out]; simp [q0, q1]
    clear HR 
    go_wp2_with fail
    all_goals
      first
        | (exfalso; omega)
        | (exfalso; simp only [decide_eq_true_eq, decide_eq_false_iff_not] at *; omega)
        | (go_ret; exact ⟨rfl, HB2.out⟩)
        | exact bodyPost_ret (v := .int .i64 2) (by simp [results, Tryz.results175, go_sem]) rfl ⟨rfl, HB2.out⟩
  clear HC HU
  by_cases p1 : fl = 0
  case neg =>
    have bp1 : (fl == 0) = false := by simpa using p1
    have hp1 := Lib.hid p1
    obtain rfl : R = 3 := by rw [HR.out]; simp [q0, q1, p1]
    clear HR p1
    go_wp2_with fail
    all_goals
      first
        | (exfalso; omega)
        | (exfalso; simp only [decide_eq_true_eq, decide_eq_false_iff_not] at *; omega)
        | (go_ret; exact ⟨rfl, HB2.out⟩)
        | exact bodyPost_ret (v := .int .i64 3) (by simp [results, Tryz.results175, go_sem]) rfl ⟨rfl, HB2.out⟩
  subst p1
  by_cases p2 : kd = 0
  case neg =>
    have bp2 : (kd == 0) = false := by simpa using p2
    have hp2 := Lib.hid p2
    obtain rfl : R = 3 := by rw [HR.out]; simp [q0, q1, p2]
    clear HR p2
    go_wp2_with fail
    all_goals
      first
        | (exfalso; omega)
        | (exfalso; simp only [decide_eq_true_eq, decide_eq_false_iff_not] at *; omega)
        | (go_ret; exact ⟨rfl, HB2.out⟩)
        | exact bodyPost_ret (v := .int .i64 3) (by simp [results, Tryz.results175, go_sem]) rfl ⟨rfl, HB2.out⟩
  subst p2
  cases q with
  | false =>
    obtain rfl : R = 3 := by rw [HR.out]; simp [q0, q1]
    clear HR 
    go_wp2_with fail
    all_goals
      first
        | (exfalso; omega)
        | (exfalso; simp only [decide_eq_true_eq, decide_eq_false_iff_not] at *; omega)
        | (go_ret; exact ⟨rfl, HB2.out⟩)
        | exact bodyPost_ret (v := .int .i64 3) (by simp [results, Tryz.results175, go_sem]) rfl ⟨rfl, HB2.out⟩
  | true =>
    obtain rfl : R = 0 := by rw [HR.out]; simp [q0, q1]
    clear HR 
    go_wp2_with fail
    all_goals
      first
        | (exfalso; omega)
        | (exfalso; simp only [decide_eq_true_eq, decide_eq_false_iff_not] at *; omega)
        | (go_ret; exact ⟨rfl, HB2.out⟩)
        | exact bodyPost_ret (v := .int .i64 0) (by simp [results, Tryz.results175, go_sem]) rfl ⟨rfl, HB2.out⟩
set_option maxRecDepth 100000 in
set_option maxHeartbeats 4000000 in
theorem rnode_1 (x : Ex) (A : Option Addr) (c : Nat) (w : World) (h2 : x.op = 1) (hn : x.args.length ≤ 1048576) :
    Calls Tryz.prog 175 #[exV x (.slice A x.args.length c)] w fun e w' => e = .returned (.int .i64 (nodeE x)) ∧ Below w.heap.size w w' := by
  obtain ⟨op, l, vr, fl, kd, ⟨k0, n0, t0⟩⟩ := x
  obtain ⟨R, hR⟩ : ∃ R, nodeE (.mk op l vr fl kd ⟨k0, n0, t0⟩) = R := ⟨_, rfl⟩
  rw [hR]
  have HA := Lib.hid (rarity_any op)
  have HS := Lib.hid (ruses_any op)
  have HQ : Hid (∀ W, (binOp .neq 88 (.agg #[.int .i64 k0, .int .i64 n0, .string t0]) (.agg #[.int .i64 0, .int .i64 0, .string ⟨#[]⟩])).run Tryz.prog W = .ok (.bool (!vlEq ⟨k0, n0, t0⟩ zeroVl)) W) := Lib.hid (fun W => vl_neq2 ⟨k0, n0, t0⟩ zeroVl W)
  have HC := Lib.hid (fun (W : World) (_ : True) => rvcheck_any ⟨k0, n0, t0⟩ W)
  have HU := Lib.hid (fun (W : World) => rsuits_any kd ⟨k0, n0, t0⟩ W)
  obtain ⟨b, hbs⟩ : ∃ b, sutB kd ⟨k0, n0, t0⟩ = b := ⟨_, rfl⟩
  rw [hbs] at HU
  obtain ⟨q, hq⟩ : ∃ q, vlEq ⟨k0, n0, t0⟩ zeroVl = q := ⟨_, rfl⟩
  obtain ⟨z, hz⟩ : ∃ z, valE ⟨k0, n0, t0⟩ = z := ⟨_, rfl⟩
  rw [hq] at HQ
  rw [hz] at HC
  unfold exV vlV at *
  simp only [Ex.op, Ex.vr, Ex.fl, Ex.kd, Ex.val, Ex.args] at *
  subst h2
  obtain ⟨n, hnl⟩ : ∃ n, l.length = n := ⟨_, rfl⟩
  rw [hnl] at hn ⊢
  have HR : Hid (R = if (n : Int) ≠ 0 then 15 else if (vr < 0 ∨ 16 ≤ vr) ∨ fl < 0 ∨ 8 ≤ fl then 2 else if kd ≠ 0 ∨ q = false then 3 else 0) := Lib.hid (by rw [← hR, ← hq, ← hnl]; simp [nodeE, useP, arN, Ex.op, Ex.args, Ex.vr, Ex.fl, Ex.kd, Ex.val, or_assoc])
  clear hR hq hz hnl hn hbs
  go_enter Tryz.func175, Tryz.ntmps175
  go_wp2_with fail
  refine (HA.out _).mono ?_
  rintro e w1 ⟨rfl, hb1⟩
  have hnew := (new_cells hb1).1
  have y0 : w1.cell? ⟨w.heap.size, 0, none⟩ = some (.int .i64 1) := by rw [hnew]; rfl
  have y1 : w1.cell? ⟨w.heap.size, 1, none⟩ = some (.slice A n c) := by rw [hnew]; rfl
  have y2 : w1.cell? ⟨w.heap.size, 2, none⟩ = some (.int .i64 vr) := by rw [hnew]; rfl
  have y3 : w1.cell? ⟨w.heap.size, 3, none⟩ = some (.int .i64 fl) := by rw [hnew]; rfl
  have y4 : w1.cell? ⟨w.heap.size, 4, none⟩ = some (.int .i64 kd) := by rw [hnew]; rfl
  have y5 : w1.cell? ⟨w.heap.size, 5, none⟩ = some (.int .i64 k0) := by rw [hnew]; rfl
  have y6 : w1.cell? ⟨w.heap.size, 6, none⟩ = some (.int .i64 n0) := by rw [hnew]; rfl
  have y7 : w1.cell? ⟨w.heap.size, 7, none⟩ = some (.string t0) := by rw [hnew]; rfl
  have HB1 := Lib.hid (bel_tr (bel_one w _) hb1)
  clear hnew hb1
  rw [show arN 1 = 0 from rfl]
  by_cases h0 : (n : Int) = 0
  case neg =>
    have h0' : ((n : Int) == 0) = false := by simpa using h0
    obtain rfl : R = 15 := by rw [HR.out, if_pos h0]
    clear HR h0
    go_wp2_with fail
    all_goals
      go_ret
      exact ⟨rfl, HB1.out⟩
  have H0 := Lib.hid h0
  obtain rfl : n = 0 := by omega
  clear h0 H0
  go_wp2_with fail
  refine (HS.out _).mono ?_
  rintro e w2 ⟨rfl, hb2⟩
  replace y0 := cell_stays hb2 y0
  replace y1 := cell_stays hb2 y1
  replace y2 := cell_stays hb2 y2
  replace y3 := cell_stays hb2 y3
  replace y4 := cell_stays hb2 y4
  replace y5 := cell_stays hb2 y5
  replace y6 := cell_stays hb2 y6
  replace y7 := cell_stays hb2 y7
  have HB2 := Lib.hid (bel_tr HB1.out hb2)
  rw [show useP 1 = (true, true) from rfl]
  have hQ := HQ.out
  clear HA HS HQ hb2
  by_cases q0 : vr < 0
  case pos =>
    obtain rfl : R = 2 := by rw [HR.out]; simp [q0]
    clear HR 
    go_wp2_with fail
    all_goals
      first
        | (exfalso; omega)
        | (exfalso; simp only [decide_eq_true_eq, decide_eq_false_iff_not] at *; omega)
        | (go_ret; exact ⟨rfl, HB2.out⟩)
        | exact bodyPost_ret (v := .int .i64 2) (by simp [results, Tryz.results175, go_sem]) rfl ⟨rfl, HB2.out⟩
  by_cases q1 : 16 ≤ vr
  case pos =>
    obtain rfl : R = 2 := by rw [HR.out]; simp [q0, q1]
    clear HR 
    go_wp2_with fail
    all_goals
      first
        | (exfalso; omega)
        | (exfalso; simp only [decide_eq_true_eq, decide_eq_false_iff_not] at *; omega)
        | (go_ret; exact ⟨rfl, HB2.out⟩)
        | exact bodyPost_ret (v := .int .i64 2) (by simp [results, Tryz.results175, go_sem]) rfl ⟨rfl, HB2.out⟩
  by_cases q2 : fl < 0
  case pos =>
    obtain rfl : R = 2 := by rw [HR.out]; simp [q0, q1, q2]
    clear HR 
    go_wp2_with fail
    all_goals
      first
        | (exfalso; omega)
        | (exfalso; simp only [decide_eq_true_eq, decide_eq_false_iff_not] at *; omega)
        | (go_ret; exact ⟨rfl, HB2.out⟩)
        | exact bodyPost_ret (v := .int .i64 2) (by simp [results, Tryz.results175, go_sem]) rfl ⟨rfl, HB2.out⟩
  by_cases q3 : 8 ≤ fl
  case pos =>
    obtain rfl : R = 2 := by rw [HR.out]; simp [q0, q1, q2, q3]
    clear HR 
    go_wp2_with fail
    all_goals
      first
        | (exfalso; omega)
        | (exfalso; simp only [decide_eq_true_eq, decide_eq_false_iff_not] at *; omega)
        | (go_ret; exact ⟨rfl, HB2.out⟩)
        | exact bodyPost_ret (v := .int .i64 2) (by simp [results, Tryz.results175, go_sem]) rfl ⟨rfl, HB2.out⟩
  clear HC HU
  by_cases p2 : kd = 0
  case neg =>
    have bp2 : (kd == 0) = false := by simpa using p2
    have hp2 := Lib.hid p2
    obtain rfl : R = 3 := by rw [HR.out]; simp [q0, q1, q2, q3, p2]
    clear HR p2
    go_wp2_with fail
    all_goals
      first
        | (exfalso; omega)
        | (exfalso; simp only [decide_eq_true_eq, decide_eq_false_iff_not] at *; omega)
        | (go_ret; exact ⟨rfl, HB2.out⟩)
        | exact bodyPost_ret (v := .int .i64 3) (by simp [results, Tryz.results175, go_sem]) rfl ⟨rfl, HB2.out⟩
  subst p2
  cases q with
  | false =>
    obtain rfl : R = 3 := by rw [HR.out]; simp [q0, q1, q2, q3]
    clear HR 
    go_wp2_with fail
    all_goals
      first
        | (exfalso; omega)
        | (exfalso; simp only [decide_eq_true_eq, decide_eq_false_iff_not] at *; omega)
        | (go_ret; exact ⟨rfl, HB2.out⟩)
        | exact bodyPost_ret (v := .int .i64 3) (by simp [results, Tryz.results175, go_sem]) rfl ⟨rfl, HB2.out⟩
  | true =>
    obtain rfl : R = 0 := by rw [HR.out]; simp [q0, q1, q2, q3]
    clear HR 
    go_wp2_with fail
    all_goals
      first
        | (exfalso; omega)
        | (exfalso; simp only [decide_eq_true_eq, decide_eq_false_iff_not] at *; omega)
        | (go_ret; exact ⟨rfl, HB2.out⟩)
        | exact bodyPost_ret (v := .int .i64 0) (by simp [results, Tryz.results175, go_sem]) rfl ⟨rfl, HB2.out⟩
set_option maxRecDepth 100000 in
set_option maxHeartbeats 4000000 in
theorem rnode_0 (x : Ex) (A : Option Addr) (c : Nat) (w : World) (h2 : x.op = 0) (hn : x.args.length ≤ 1048576) :
    Calls Tryz.prog 175 #[exV x (.slice A x.args.length c)] w fun e w' => e = .returned (.int .i64 (nodeE x)) ∧ Below w.heap.size w w' := by
  obtain ⟨op, l, vr, fl, kd, ⟨k0, n0, t0⟩⟩ := x
  obtain ⟨R, hR⟩ : ∃ R, nodeE (.mk op l vr fl kd ⟨k0, n0, t0⟩) = R := ⟨_, rfl⟩
  rw [hR]
  have HA := Lib.hid (rarity_any op)
  have HS := Lib.hid (ruses_any op)
  have HQ : Hid (∀ W, (binOp .neq 88 (.agg #[.int .i64 k0, .int .i64 n0, .string t0]) (.agg #[.int .i64 0, .int .i64 0, .string ⟨#[]⟩])).run Tryz.prog W = .ok (.bool (!vlEq ⟨k0, n0, t0⟩ zeroVl)) W) := Lib.hid (fun W => vl_neq2 ⟨k0, n0, t0⟩ zeroVl W)
  have HC := Lib.hid (fun (W : World) (_ : True) => rvcheck_any ⟨k0, n0, t0⟩ W)
  have HU := Lib.hid (fun (W : World) => rsuits_any kd ⟨k0, n0, t0⟩ W)
  obtain ⟨b, hbs⟩ : ∃ b, sutB kd ⟨k0, n0, t0⟩ = b := ⟨_, rfl⟩
  rw [hbs] at HU
  obtain ⟨q, hq⟩ : ∃ q, vlEq ⟨k0, n0, t0⟩ zeroVl = q := ⟨_, rfl⟩
  obtain ⟨z, hz⟩ : ∃ z, valE ⟨k0, n0, t0⟩ = z := ⟨_, rfl⟩
  rw [hq] at HQ
  rw [hz] at HC
  unfold exV vlV at *
  simp only [Ex.op, Ex.vr, Ex.fl, Ex.kd, Ex.val, Ex.args] at *
  subst h2
  obtain ⟨n, hnl⟩ : ∃ n, l.length = n := ⟨_, rfl⟩
  rw [hnl] at hn ⊢
  have HR : Hid (R = if (n : Int) ≠ 0 then 15 else if z ≠ 0 then z else if vr ≠ 0 ∨ fl ≠ 0 ∨ kd ≠ 0 then 3 else 0) := Lib.hid (by rw [← hR, ← hz, ← hnl]; simp only [nodeE, useP, arN, conE, Ex.op, Ex.args, Ex.vr, Ex.fl, Ex.kd, Ex.val]; simp []; (repeat' split) <;> simp_all)
  clear hR hq hz hnl hn hbs
  go_enter Tryz.func175, Tryz.ntmps175
  go_wp2_with fail
  refine (HA.out _).mono ?_
  rintro e w1 ⟨rfl, hb1⟩
  have hnew := (new_cells hb1).1
  have y0 : w1.cell? ⟨w.heap.size, 0, none⟩ = some (.int .i64 0) := by rw [hnew]; rfl
  have y1 : w1.cell? ⟨w.heap.size, 1, none⟩ = some (.slice A n c) := by rw [hnew]; rfl
  have y2 : w1.cell? ⟨w.heap.size, 2, none⟩ = some (.int .i64 vr) := by rw [hnew]; rfl
  have y3 : w1.cell? ⟨w.heap.size, 3, none⟩ = some (.int .i64 fl) := by rw [hnew]; rfl
  have y4 : w1.cell? ⟨w.heap.size, 4, none⟩ = some (.int .i64 kd) := by rw [hnew]; rfl
  have y5 : w1.cell? ⟨w.heap.size, 5, none⟩ = some (.int .i64 k0) := by rw [hnew]; rfl
  have y6 : w1.cell? ⟨w.heap.size, 6, none⟩ = some (.int .i64 n0) := by rw [hnew]; rfl
  have y7 : w1.cell? ⟨w.heap.size, 7, none⟩ = some (.string t0) := by rw [hnew]; rfl
  have HB1 := Lib.hid (bel_tr (bel_one w _) hb1)
  clear hnew hb1
  rw [show arN 0 = 0 from rfl]
  by_cases h0 : (n : Int) = 0
  case neg =>
    have h0' : ((n : Int) == 0) = false := by simpa using h0
    obtain rfl : R = 15 := by rw [HR.out, if_pos h0]
    clear HR h0
    go_wp2_with fail
    all_goals
      go_ret
      exact ⟨rfl, HB1.out⟩
  have H0 := Lib.hid h0
  obtain rfl : n = 0 := by omega
  clear h0 H0
  go_wp2_with fail
  refine (HS.out _).mono ?_
  rintro e w2 ⟨rfl, hb2⟩
  replace y0 := cell_stays hb2 y0
  replace y1 := cell_stays hb2 y1
  replace y2 := cell_stays hb2 y2
  replace y3 := cell_stays hb2 y3
  replace y4 := cell_stays hb2 y4
  replace y5 := cell_stays hb2 y5
  replace y6 := cell_stays hb2 y6
  replace y7 := cell_stays hb2 y7
  have HB2 := Lib.hid (bel_tr HB1.out hb2)
  rw [show useP 0 = (false, false) from rfl]
  have hQ := HQ.out
  clear HA HS HQ hb2
  go_wp2_with fail
  all_goals first | (exfalso; omega) | skip
  refine (HC.out _ trivial).mono ?_
  rintro e w3 ⟨rfl, hb3⟩
  replace y0 := cell_stays hb3 y0
  replace y2 := cell_stays hb3 y2
  replace y3 := cell_stays hb3 y3
  replace y4 := cell_stays hb3 y4
  replace y5 := cell_stays hb3 y5
  replace y6 := cell_stays hb3 y6
  replace y7 := cell_stays hb3 y7
  have HB3 := Lib.hid (bel_tr HB2.out hb3)
  clear hb3
  by_cases qz : z = 0
  case neg =>
    have bz : (z == 0) = false := by simpa using qz
    obtain rfl : R = z := by rw [HR.out]; simp [qz]
    clear HR qz
    go_wp2_with fail
    all_goals
      go_ret
      exact ⟨rfl, HB3.out⟩
  subst qz
  by_cases p0 : vr = 0
  case neg =>
    have bp0 : (vr == 0) = false := by simpa using p0
    have hp0 := Lib.hid p0
    obtain rfl : R = 3 := by rw [HR.out]; simp [p0]
    clear HR p0
    go_wp2_with fail
    all_goals
      first
        | (exfalso; omega)
        | (exfalso; simp only [decide_eq_true_eq, decide_eq_false_iff_not] at *; omega)
        | (go_ret; exact ⟨rfl, HB3.out⟩)
        | exact bodyPost_ret (v := .int .i64 3) (by simp [results, Tryz.results175, go_sem]) rfl ⟨rfl, HB3.out⟩
  subst p0
  by_cases p1 : fl = 0
  case neg =>
    have bp1 : (fl == 0) = false := by simpa using p1
    have hp1 := Lib.hid p1
    obtain rfl : R = 3 := by rw [HR.out]; simp [p1]
    clear HR p1
    go_wp2_with fail
    all_goals
      first
        | (exfalso; omega)
        | (exfalso; simp only [decide_eq_true_eq, decide_eq_false_iff_not] at *; omega)
        | (go_ret; exact ⟨rfl, HB3.out⟩)
        | exact bodyPost_ret (v := .int .i64 3) (by simp [results, Tryz.results175, go_sem]) rfl ⟨rfl, HB3.out⟩
  subst p1
  by_cases p2 : kd = 0
  case neg =>
    have bp2 : (kd == 0) = false := by simpa using p2
    have hp2 := Lib.hid p2
    obtain rfl : R = 3 := by rw [HR.out]; simp [p2]
    clear HR p2
    go_wp2_with fail
    all_goals
      first
        | (exfalso; omega)
        | (exfalso; simp only [decide_eq_true_eq, decide_eq_false_iff_not] at *; omega)
        | (go_ret; exact ⟨rfl, HB3.out⟩)
        | exact bodyPost_ret (v := .int .i64 3) (by simp [results, Tryz.results175, go_sem]) rfl ⟨rfl, HB3.out⟩
  subst p2
  obtain rfl : R = 0 := by rw [HR.out]; simp []
  clear HR 
  go_wp2_with fail
  all_goals
    first
      | (exfalso; omega)
      | (exfalso; simp only [decide_eq_true_eq, decide_eq_false_iff_not] at *; omega)
      | (go_ret; exact ⟨rfl, HB3.out⟩)
      | exact bodyPost_ret (v := .int .i64 0) (by simp [results, Tryz.results175, go_sem]) rfl ⟨rfl, HB3.out⟩
set_option maxRecDepth 100000 in
set_option maxHeartbeats 4000000 in
theorem rnode_4 (x : Ex) (A : Option Addr) (c : Nat) (w : World) (h2 : x.op = 4) (hn : x.args.length ≤ 1048576) :
    Calls Tryz.prog 175 #[exV x (.slice A x.args.length c)] w fun e w' => e = .returned (.int .i64 (nodeE x)) ∧ Below w.heap.size w w' := by
  obtain ⟨op, l, vr, fl, kd, ⟨k0, n0, t0⟩⟩ := x
  obtain ⟨R, hR⟩ : ∃ R, nodeE (.mk op l vr fl kd ⟨k0, n0, t0⟩) = R := ⟨_, rfl⟩
  rw [hR]
  have HA := Lib.hid (rarity_any op)
  have HS := Lib.hid (ruses_any op)
  have HQ : Hid (∀ W, (binOp .neq 88 (.agg #[.int .i64 k0, .int .i64 n0, .string t0]) (.agg #[.int .i64 0, .int .i64 0, .string ⟨#[]⟩])).run Tryz.prog W = .ok (.bool (!vlEq ⟨k0, n0, t0⟩ zeroVl)) W) := Lib.hid (fun W => vl_neq2 ⟨k0, n0, t0⟩ zeroVl W)
  have HC := Lib.hid (fun (W : World) (_ : True) => rvcheck_any ⟨k0, n0, t0⟩ W)
  have HU := Lib.hid (fun (W : World) => rsuits_any kd ⟨k0, n0, t0⟩ W)
  obtain ⟨b, hbs⟩ : ∃ b, sutB kd ⟨k0, n0, t0⟩ = b := ⟨_, rfl⟩
  rw [hbs] at HU
  obtain ⟨q, hq⟩ : ∃ q, vlEq ⟨k0, n0, t0⟩ zeroVl = q := ⟨_, rfl⟩
  obtain ⟨z, hz⟩ : ∃ z, valE ⟨k0, n0, t0⟩ = z := ⟨_, rfl⟩
  rw [hq] at HQ
  rw [hz] at HC
  unfold exV vlV at *
  simp only [Ex.op, Ex.vr, Ex.fl, Ex.kd, Ex.val, Ex.args] at *
  subst h2
  obtain ⟨n, hnl⟩ : ∃ n, l.length = n := ⟨_, rfl⟩
  rw [hnl] at hn ⊢
  have HR : Hid (R = if (n : Int) ≠ 0 then 15 else if (vr < 0 ∨ 16 ≤ vr) ∨ fl < 0 ∨ 8 ≤ fl then 2 else if kd < 1 ∨ 5 < kd then 1 else if z ≠ 0 then z else if b = false ∨ kd = 1 ∧ q = false then 9 else 0) := Lib.hid (by rw [← hR, ← hz, ← hnl, ← hq, ← hbs]; simp only [nodeE, useP, arN, conE, Ex.op, Ex.args, Ex.vr, Ex.fl, Ex.kd, Ex.val]; simp [or_assoc]; (repeat' split) <;> simp_all)
  clear hR hq hz hnl hn hbs
  go_enter Tryz.func175, Tryz.ntmps175
  go_wp2_with fail
  refine (HA.out _).mono ?_
  rintro e w1 ⟨rfl, hb1⟩
  have hnew := (new_cells hb1).1
  have y0 : w1.cell? ⟨w.heap.size, 0, none⟩ = some (.int .i64 4) := by rw [hnew]; rfl
  have y1 : w1.cell? ⟨w.heap.size, 1, none⟩ = some (.slice A n c) := by rw [hnew]; rfl
  have y2 : w1.cell? ⟨w.heap.size, 2, none⟩ = some (.int .i64 vr) := by rw [hnew]; rfl
  have y3 : w1.cell? ⟨w.heap.size, 3, none⟩ = some (.int .i64 fl) := by rw [hnew]; rfl
  have y4 : w1.cell? ⟨w.heap.size, 4, none⟩ = some (.int .i64 kd) := by rw [hnew]; rfl
  have y5 : w1.cell? ⟨w.heap.size, 5, none⟩ = some (.int .i64 k0) := by rw [hnew]; rfl
  have y6 : w1.cell? ⟨w.heap.size, 6, none⟩ = some (.int .i64 n0) := by rw [hnew]; rfl
  have y7 : w1.cell? ⟨w.heap.size, 7, none⟩ = some (.string t0) := by rw [hnew]; rfl
  have HB1 := Lib.hid (bel_tr (bel_one w _) hb1)
  clear hnew hb1
  rw [show arN 4 = 0 from rfl]
  by_cases h0 : (n : Int) = 0
  case neg =>
    have h0' : ((n : Int) == 0) = false := by simpa using h0
    obtain rfl : R = 15 := by rw [HR.out, if_pos h0]
    clear HR h0
    go_wp2_with fail
    all_goals
      go_ret
      exact ⟨rfl, HB1.out⟩
  have H0 := Lib.hid h0
  obtain rfl : n = 0 := by omega
  clear h0 H0
  go_wp2_with fail
  refine (HS.out _).mono ?_
  rintro e w2 ⟨rfl, hb2⟩
  replace y0 := cell_stays hb2 y0
  replace y1 := cell_stays hb2 y1
  replace y2 := cell_stays hb2 y2
  replace y3 := cell_stays hb2 y3
  replace y4 := cell_stays hb2 y4
  replace y5 := cell_stays hb2 y5
  replace y6 := cell_stays hb2 y6
  replace y7 := cell_stays hb2 y7
  have HB2 := Lib.hid (bel_tr HB1.out hb2)
  rw [show useP 4 = (true, true) from rfl]
  have hQ := HQ.out
  clear HA HS HQ hb2
  by_cases q0 : vr < 0
  case pos =>
    obtain rfl : R = 2 := by rw [HR.out]; simp [q0]
    clear HR 
    go_wp2_with fail
    all_goals
      first
        | (exfalso; omega)
        | (exfalso; simp only [decide_eq_true_eq, decide_eq_false_iff_not] at *; omega)
        | (go_ret; exact ⟨rfl, HB2.out⟩)
        | exact bodyPost_ret (v := .int .i64 2) (by simp [results, Tryz.results175, go_sem]) rfl ⟨rfl, HB2.out⟩
  by_cases q1 : 16 ≤ vr
  case pos =>
    obtain rfl : R = 2 := by rw [HR.out]; simp [q0, q1]
    clear HR 
    go_wp2_with fail
    all_goals
      first
        | (exfalso; omega)
        | (exfalso; simp only [decide_eq_true_eq, decide_eq_false_iff_not] at *; omega)
        | (go_ret; exact ⟨rfl, HB2.out⟩)
        | exact bodyPost_ret (v := .int .i64 2) (by simp [results, Tryz.results175, go_sem]) rfl ⟨rfl, HB2.out⟩
  by_cases q2 : fl < 0
  case pos =>
    obtain rfl : R = 2 := by rw [HR.out]; simp [q0, q1, q2]
    clear HR 
    go_wp2_with fail
    all_goals
      first
        | (exfalso; omega)
        | (exfalso; simp only [decide_eq_true_eq, decide_eq_false_iff_not] at *; omega)
        | (go_ret; exact ⟨rfl, HB2.out⟩)
        | exact bodyPost_ret (v := .int .i64 2) (by simp [results, Tryz.results175, go_sem]) rfl ⟨rfl, HB2.out⟩
  by_cases q3 : 8 ≤ fl
  case pos =>
    obtain rfl : R = 2 := by rw [HR.out]; simp [q0, q1, q2, q3]
    clear HR 
    go_wp2_with fail
    all_goals
      first
        | (exfalso; omega)
        | (exfalso; simp only [decide_eq_true_eq, decide_eq_false_iff_not] at *; omega)
        | (go_ret; exact ⟨rfl, HB2.out⟩)
        | exact bodyPost_ret (v := .int .i64 2) (by simp [results, Tryz.results175, go_sem]) rfl ⟨rfl, HB2.out⟩
  by_cases q4 : kd < 1
  case pos =>
    obtain rfl : R = 1 := by rw [HR.out]; simp [q0, q1, q2, q3, q4]
    clear HR 
    go_wp2_with fail
    all_goals
      first
        | (exfalso; omega)
        | (exfalso; simp only [decide_eq_true_eq, decide_eq_false_iff_not] at *; omega)
        | (go_ret; exact ⟨rfl, HB2.out⟩)
        | exact bodyPost_ret (v := .int .i64 1) (by simp [results, Tryz.results175, go_sem]) rfl ⟨rfl, HB2.out⟩
  by_cases q5 : 5 < kd
  case pos =>
    obtain rfl : R = 1 := by rw [HR.out]; simp [q0, q1, q2, q3, q4, q5]
    clear HR 
    go_wp2_with fail
    all_goals
      first
        | (exfalso; omega)
        | (exfalso; simp only [decide_eq_true_eq, decide_eq_false_iff_not] at *; omega)
        | (go_ret; exact ⟨rfl, HB2.out⟩)
        | exact bodyPost_ret (v := .int .i64 1) (by simp [results, Tryz.results175, go_sem]) rfl ⟨rfl, HB2.out⟩
  go_wp2_with fail
  all_goals first | (exfalso; omega) | skip
  refine (HC.out _ trivial).mono ?_
  rintro e w3 ⟨rfl, hb3⟩
  replace y0 := cell_stays hb3 y0
  replace y2 := cell_stays hb3 y2
  replace y3 := cell_stays hb3 y3
  replace y4 := cell_stays hb3 y4
  replace y5 := cell_stays hb3 y5
  replace y6 := cell_stays hb3 y6
  replace y7 := cell_stays hb3 y7
  have HB3 := Lib.hid (bel_tr HB2.out hb3)
  clear hb3
  by_cases qz : z = 0
  case neg =>
    have bz : (z == 0) = false := by simpa using qz
    obtain rfl : R = z := by rw [HR.out]; rw [if_neg (by omega), if_neg (by omega), if_neg (by omega)]; simp [qz]
    clear HR qz
    go_wp2_with fail
    all_goals
      go_ret
      exact ⟨rfl, HB3.out⟩
  subst qz
  go_wp2_with fail
  all_goals first | (exfalso; omega) | skip
  refine (HU.out _).mono ?_
  rintro e w4 ⟨rfl, hb4⟩
  replace y0 := cell_stays hb4 y0
  replace y2 := cell_stays hb4 y2
  replace y3 := cell_stays hb4 y3
  replace y4 := cell_stays hb4 y4
  replace y5 := cell_stays hb4 y5
  replace y6 := cell_stays hb4 y6
  replace y7 := cell_stays hb4 y7
  have HB4 := Lib.hid (bel_tr HB3.out hb4)
  clear hb4
  cases b with
  | false =>
    obtain rfl : R = 9 := by rw [HR.out]; rw [if_neg (by omega), if_neg (by omega), if_neg (by omega)]; simp
    clear HR 
    go_wp2_with fail
    all_goals
      first
        | (exfalso; omega)
        | (exfalso; simp only [decide_eq_true_eq, decide_eq_false_iff_not] at *; omega)
        | (go_ret; exact ⟨rfl, HB4.out⟩)
        | exact bodyPost_ret (v := .int .i64 9) (by simp [results, Tryz.results175, go_sem]) rfl ⟨rfl, HB4.out⟩
  | true =>
    by_cases k1 : kd = 1
    case neg =>
      have bk : (kd == 1) = false := by simpa using k1
      obtain rfl : R = 0 := by rw [HR.out]; rw [if_neg (by omega), if_neg (by omega), if_neg (by omega)]; simp [k1]
      clear HR 
      go_wp2_with fail
      all_goals
        first
          | (exfalso; omega)
          | (exfalso; simp only [decide_eq_true_eq, decide_eq_false_iff_not] at *; omega)
          | (go_ret; exact ⟨rfl, HB4.out⟩)
          | exact bodyPost_ret (v := .int .i64 0) (by simp [results, Tryz.results175, go_sem]) rfl ⟨rfl, HB4.out⟩
    subst k1
    cases q with
    | false =>
      obtain rfl : R = 9 := by rw [HR.out]; rw [if_neg (by omega), if_neg (by omega), if_neg (by omega)]; simp
      clear HR 
      go_wp2_with fail
      all_goals
        first
          | (exfalso; omega)
          | (exfalso; simp only [decide_eq_true_eq, decide_eq_false_iff_not] at *; omega)
          | (go_ret; exact ⟨rfl, HB4.out⟩)
          | exact bodyPost_ret (v := .int .i64 9) (by simp [results, Tryz.results175, go_sem]) rfl ⟨rfl, HB4.out⟩
    | true =>
      obtain rfl : R = 0 := by rw [HR.out]; rw [if_neg (by omega), if_neg (by omega), if_neg (by omega)]; simp
      clear HR 
      go_wp2_with fail
      all_goals
        first
          | (exfalso; omega)
          | (exfalso; simp only [decide_eq_true_eq, decide_eq_false_iff_not] at *; omega)
          | (go_ret; exact ⟨rfl, HB4.out⟩)
          | exact bodyPost_ret (v := .int .i64 0) (by simp [results, Tryz.results175, go_sem]) rfl ⟨rfl, HB4.out⟩
set_option maxRecDepth 100000 in
set_option maxHeartbeats 4000000 in
theorem rnode_g (x : Ex) (A : Option Addr) (c : Nat) (w : World) (m : Int) (h2 : arP x.op = (m, true)) (h3 : arN x.op = m) (h4 : useP x.op = (false, false)) (h5 : x.op ≠ 4) (h6 : x.op ≠ 0) (hm : 0 ≤ m) (hn : x.args.length ≤ 1048576) :
    Calls Tryz.prog 175 #[exV x (.slice A x.args.length c)] w fun e w' => e = .returned (.int .i64 (nodeE x)) ∧ Below w.heap.size w w' := by
  obtain ⟨op, l, vr, fl, kd, ⟨k0, n0, t0⟩⟩ := x
  obtain ⟨R, hR⟩ : ∃ R, nodeE (.mk op l vr fl kd ⟨k0, n0, t0⟩) = R := ⟨_, rfl⟩
  rw [hR]
  have HA := Lib.hid (rarity_any op)
  have HS := Lib.hid (ruses_any op)
  have HQ : Hid (∀ W, (binOp .neq 88 (.agg #[.int .i64 k0, .int .i64 n0, .string t0]) (.agg #[.int .i64 0, .int .i64 0, .string ⟨#[]⟩])).run Tryz.prog W = .ok (.bool (!vlEq ⟨k0, n0, t0⟩ zeroVl)) W) := Lib.hid (fun W => vl_neq2 ⟨k0, n0, t0⟩ zeroVl W)
  have HC := Lib.hid (fun (W : World) (_ : True) => rvcheck_any ⟨k0, n0, t0⟩ W)
  have HU := Lib.hid (fun (W : World) => rsuits_any kd ⟨k0, n0, t0⟩ W)
  obtain ⟨b, hbs⟩ : ∃ b, sutB kd ⟨k0, n0, t0⟩ = b := ⟨_, rfl⟩
  rw [hbs] at HU
  obtain ⟨q, hq⟩ : ∃ q, vlEq ⟨k0, n0, t0⟩ zeroVl = q := ⟨_, rfl⟩
  obtain ⟨z, hz⟩ : ∃ z, valE ⟨k0, n0, t0⟩ = z := ⟨_, rfl⟩
  rw [hq] at HQ
  rw [hz] at HC
  unfold exV vlV at *
  simp only [Ex.op, Ex.vr, Ex.fl, Ex.kd, Ex.val, Ex.args] at *
  obtain ⟨n, hnl⟩ : ∃ n, l.length = n := ⟨_, rfl⟩
  rw [hnl] at hn ⊢
  have HR : Hid (R = if (n : Int) ≠ m then 15 else if vr ≠ 0 ∨ fl ≠ 0 ∨ kd ≠ 0 ∨ q = false then 3 else 0) := Lib.hid (by rw [← hR, ← hq, ← hnl]; unfold nodeE; simp only [Ex.op, Ex.args, Ex.vr, Ex.fl, Ex.kd, Ex.val, h3, h4]; rw [if_neg (by omega)]; simp [h5, h6])
  have b4 : (op == 4) = false := by simpa using h5
  have b0 : (op == 0) = false := by simpa using h6
  have H2 := Lib.hid h3
  have H4 := Lib.hid h4
  have hm' : ¬ m < 0 := by omega
  clear h2 h3 h4 h5 h6 hm
  clear hR hq hz hnl hn hbs
  go_enter Tryz.func175, Tryz.ntmps175
  go_wp2_with fail
  refine (HA.out _).mono ?_
  rintro e w1 ⟨rfl, hb1⟩
  have hnew := (new_cells hb1).1
  have y0 : w1.cell? ⟨w.heap.size, 0, none⟩ = some (.int .i64 op) := by rw [hnew]; rfl
  have y1 : w1.cell? ⟨w.heap.size, 1, none⟩ = some (.slice A n c) := by rw [hnew]; rfl
  have y2 : w1.cell? ⟨w.heap.size, 2, none⟩ = some (.int .i64 vr) := by rw [hnew]; rfl
  have y3 : w1.cell? ⟨w.heap.size, 3, none⟩ = some (.int .i64 fl) := by rw [hnew]; rfl
  have y4 : w1.cell? ⟨w.heap.size, 4, none⟩ = some (.int .i64 kd) := by rw [hnew]; rfl
  have y5 : w1.cell? ⟨w.heap.size, 5, none⟩ = some (.int .i64 k0) := by rw [hnew]; rfl
  have y6 : w1.cell? ⟨w.heap.size, 6, none⟩ = some (.int .i64 n0) := by rw [hnew]; rfl
  have y7 : w1.cell? ⟨w.heap.size, 7, none⟩ = some (.string t0) := by rw [hnew]; rfl
  have HB1 := Lib.hid (bel_tr (bel_one w _) hb1)
  clear hnew hb1
  rw [H2.out]
  by_cases h0 : (n : Int) = m
  case neg =>
    have h0' : ((n : Int) == m) = false := by simpa using h0
    obtain rfl : R = 15 := by rw [HR.out, if_pos h0]
    clear HR h0
    go_wp2_with fail
    all_goals
      go_ret
      exact ⟨rfl, HB1.out⟩
  have H0 := Lib.hid h0
  subst h0
  clear H0
  go_wp2_with fail
  refine (HS.out _).mono ?_
  rintro e w2 ⟨rfl, hb2⟩
  replace y0 := cell_stays hb2 y0
  replace y1 := cell_stays hb2 y1
  replace y2 := cell_stays hb2 y2
  replace y3 := cell_stays hb2 y3
  replace y4 := cell_stays hb2 y4
  replace y5 := cell_stays hb2 y5
  replace y6 := cell_stays hb2 y6
  replace y7 := cell_stays hb2 y7
  have HB2 := Lib.hid (bel_tr HB1.out hb2)
  rw [H4.out]
  have hQ := HQ.out
  clear HA HS HQ hb2
  clear HC HU
  by_cases p0 : vr = 0
  case neg =>
    have bp0 : (vr == 0) = false := by simpa using p0
    have hp0 := Lib.hid p0
    obtain rfl : R = 3 := by rw [HR.out]; simp [p0]
    clear HR p0
    go_wp2_with fail
    all_goals
      first
        | (exfalso; omega)
        | (exfalso; simp only [decide_eq_true_eq, decide_eq_false_iff_not] at *; omega)
        | (go_ret; exact ⟨rfl, HB2.out⟩)
        | exact bodyPost_ret (v := .int .i64 3) (by simp [results, Tryz.results175, go_sem]) rfl ⟨rfl, HB2.out⟩
  subst p0
  by_cases p1 : fl = 0
  case neg =>
    have bp1 : (fl == 0) = false := by simpa using p1
    have hp1 := Lib.hid p1
    obtain rfl : R = 3 := by rw [HR.out]; simp [p1]
    clear HR p1
    go_wp2_with fail
    all_goals
      first
        | (exfalso; omega)
        | (exfalso; simp only [decide_eq_true_eq, decide_eq_false_iff_not] at *; omega)
        | (go_ret; exact ⟨rfl, HB2.out⟩)
        | exact bodyPost_ret (v := .int .i64 3) (by simp [results, Tryz.results175, go_sem]) rfl ⟨rfl, HB2.out⟩
  subst p1
  by_cases p2 : kd = 0
  case neg =>
    have bp2 : (kd == 0) = false := by simpa using p2
    have hp2 := Lib.hid p2
    obtain rfl : R = 3 := by rw [HR.out]; simp [p2]
    clear HR p2
    go_wp2_with fail
    all_goals
      first
        | (exfalso; omega)
        | (exfalso; simp only [decide_eq_true_eq, decide_eq_false_iff_not] at *; omega)
        | (go_ret; exact ⟨rfl, HB2.out⟩)
        | exact bodyPost_ret (v := .int .i64 3) (by simp [results, Tryz.results175, go_sem]) rfl ⟨rfl, HB2.out⟩
  subst p2
  cases q with
  | false =>
    obtain rfl : R = 3 := by rw [HR.out]; simp []
    clear HR 
    go_wp2_with fail
    all_goals
      first
        | (exfalso; omega)
        | (exfalso; simp only [decide_eq_true_eq, decide_eq_false_iff_not] at *; omega)
        | (go_ret; exact ⟨rfl, HB2.out⟩)
        | exact bodyPost_ret (v := .int .i64 3) (by simp [results, Tryz.results175, go_sem]) rfl ⟨rfl, HB2.out⟩
  | true =>
    obtain rfl : R = 0 := by rw [HR.out]; simp []
    clear HR 
    go_wp2_with fail
    all_goals
      first
        | (exfalso; omega)
        | (exfalso; simp only [decide_eq_true_eq, decide_eq_false_iff_not] at *; omega)
        | (go_ret; exact ⟨rfl, HB2.out⟩)
        | exact bodyPost_ret (v := .int .i64 0) (by simp [results, Tryz.results175, go_sem]) rfl ⟨rfl, HB2.out⟩
theorem rnode_any (x : Ex) (A : Option Addr) (c : Nat) (w : World) (hn : x.args.length ≤ 1048576) :
    Calls Tryz.prog 175 #[exV x (.slice A x.args.length c)] w fun e w' => e = .returned (.int .i64 (nodeE x)) ∧ Below w.heap.size w w' := by
  by_cases h2 : x.op = 2
  · exact rnode_2 x A c w h2 hn
  by_cases h3 : x.op = 3
  · exact rnode_3 x A c w h3 hn
  by_cases h1 : x.op = 1
  · exact rnode_1 x A c w h1 hn
  by_cases h0 : x.op = 0
  · exact rnode_0 x A c w h0 hn
  by_cases h4 : x.op = 4
  · exact rnode_4 x A c w h4 hn
  by_cases h5 : 5 ≤ x.op ∧ x.op ≤ 12
  · refine rnode_g x A c w (arN x.op) ?_ rfl ?_ h4 h0 ?_ hn
    · unfold arP; rw [if_neg (by omega)]
    · unfold useP; rw [if_neg (by omega), if_neg (by omega)]
    · unfold arN; rw [if_neg (by omega)]; split <;> (try split) <;> omega
  · exact rnode_bad x A x.args.length c w (by omega)
end Go.Proofs.YtclpglgigpjfoaaGreatDoor
