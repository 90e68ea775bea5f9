/- The error of an expression's nodes: the reference's nodes, expr.visit at node. -/
import Derived.Test.YtclpglgigpjfoaaGreatDoorQMnode2
namespace Go.Proofs.YtclpglgigpjfoaaGreatDoor
open Go.RowKit

mutual
def nodesE : Ex → Int
  | .mk o l a b c v => if nodeE (.mk o l a b c v) ≠ 0 then nodeE (.mk o l a b c v) else nodesEL l
def nodesEL : List Ex → Int
  | [] => 0
  | a :: r => if nodesE a ≠ 0 then nodesE a else nodesEL r
end
theorem nodesE_eq (x : Ex) : nodesE x = if nodeE x ≠ 0 then nodeE x else nodesEL x.args := by cases x; rw [nodesE]; rfl
theorem nodesEL_drop {l : List Ex} {k : Nat} {a : Ex} (h : l[k]? = some a) : nodesEL (l.drop k) = if nodesE a ≠ 0 then nodesE a else nodesEL (l.drop (k + 1)) := by
  obtain ⟨h1, rfl⟩ := List.getElem?_eq_some_iff.1 h
  rw [List.drop_eq_getElem_cons h1, nodesEL]
theorem len_nodesL : ∀ l : List Ex, l.length ≤ nodesL l
  | [] => by simp
  | a :: r => by
    have := len_nodesL r
    have := nodesN_eq a
    rw [nodesL, List.length_cons]
    omega
set_option maxRecDepth 100000 in
set_option maxHeartbeats 2000000 in
theorem rnodes_step (d : Nat) (hrec : ∀ d', d = d' + 1 → ∀ (x : Ex) (v : Value) (w : World), IsExs d' w v x.args → nodesN x ≤ 1048576 →
      Calls Tryz.prog 154 #[exV x v] w fun e w' => e = .returned (.int .i64 (nodesE x)) ∧ Below w.heap.size w w')
    (x : Ex) (v : Value) (w : World) (hx : IsExs d w v x.args) (hN : nodesN x ≤ 1048576) :
    Calls Tryz.prog 154 #[exV x v] w fun e w' => e = .returned (.int .i64 (nodesE x)) ∧ Below w.heap.size w w' := by
  have HREC := Lib.hid hrec
  obtain ⟨op, l, vr, fl, kd, ⟨k0, n0, t0⟩⟩ := x
  rw [nodesE_eq]
  rw [nodesN_eq] at hN
  obtain ⟨A, c, rfl, h1, h2, hat⟩ := hx
  have HNO := Lib.hid (fun W => rnode_any (.mk op l vr fl kd ⟨k0, n0, t0⟩) A c W (by have := len_nodesL l; simp only [Ex.args] at hN ⊢; omega))
  obtain ⟨E, hE⟩ : ∃ E, nodeE (.mk op l vr fl kd ⟨k0, n0, t0⟩) = E := ⟨_, rfl⟩
  rw [hE] at HNO ⊢
  simp only [Ex.args] at hN h1 h2 hat ⊢
  have hn63 := len_i64 h1 h2
  have HL := Lib.hid hat
  have HN := Lib.hid hN
  obtain ⟨R, hR⟩ : ∃ R, nodesEL l = R := ⟨_, rfl⟩
  have HR := Lib.hid hR
  rw [hR]
  obtain ⟨S, hS⟩ : ∃ S, (if E ≠ 0 then E else R) = S := ⟨_, rfl⟩
  rw [hS]
  have HS := Lib.hid hS
  clear hS
  unfold exV at *
  simp only [Ex.args, Ex.op, Ex.vr, Ex.fl, Ex.kd, Ex.val] at HNO ⊢
  clear hat h1 h2 hR hN hrec hE
  go_enter Tryz.func154, Tryz.ntmps154
  go_wp2_with fail
  refine (HNO.out _).mono ?_
  rintro e w1 ⟨rfl, hb1⟩
  have y1 : w1.cell? ⟨w.heap.size, 1, none⟩ = some (.slice A l.length c) := by rw [(new_cells hb1).1]; rfl
  have HB1 := Lib.hid (bel_tr (bel_one w _) hb1)
  clear hb1
  by_cases hz : E = 0
  case neg =>
    have hz' : (E == 0) = false := by simpa using hz
    obtain rfl : E = S := by have h := HS.out; rwa [if_pos hz] at h
    clear hz HS
    go_wp2_with fail
    go_ret
    exact ⟨rfl, HB1.out⟩
  subst hz
  obtain rfl : R = S := by have h := HS.out; rwa [if_neg (by simp)] at h
  clear HS
  go_wp2_with fail
  go_loopw [4] (fun i wr => ∃ k : Nat, k ≤ l.length ∧ i = .int .i64 k ∧ Hid (nodesEL (l.drop k) = R ∧ Below w1.heap.size w1 wr)) (fun i _ => l.length - (intOf i).toNat)
  case atStart => exact ⟨0, Nat.zero_le _, rfl, Lib.hid ⟨HR.out, Below.refl _ _⟩⟩
  case round =>
    obtain ⟨k, hk, rfl, hI⟩ := hrel
    have hb := hI.out.2
    have z1 := cell_stays hb y1
    by_cases hlt : k < l.length
    · have hk' : (k : Int) < (l.length : Int) := by omega
      obtain ⟨b, o, rfl, hea⟩ := HL.out k l[k] (List.getElem?_eq_getElem hlt)
      have hg := Lib.hid (List.getElem?_eq_getElem hlt)
      obtain ⟨a, ha⟩ : ∃ a, a = l[k] := ⟨_, rfl⟩
      rw [← ha] at hg hea
      clear ha
      obtain ⟨d', v', hd', hv', p0, p1, p2, p3, p4, p5, p6, p7⟩ := ex_open (exAt_stays d _ _ _ _ _ (bel_tr HB1.out hb) hea)
      have hNa : nodesN a ≤ 1048576 := by have := nodesL_at hg.out; have := HN.out; omega
      obtain ⟨Q, hQ⟩ : ∃ Q, nodesE a = Q := ⟨_, rfl⟩
      have HC := Lib.hid (fun (W : World) (hW : Below wr.heap.size wr W) => HREC.out d' hd' a v' W (hv'.stays (exAt_stays d') hW) hNa)
      rw [hQ] at HC
      have HQ := Lib.hid hQ
      clear hQ hea hd' hv'
      go_wp2_with fail
      refine (HC.out _ (Below.refl _ _)).mono ?_
      rintro e w' ⟨rfl, hb'⟩
      have h := hI.out.1
      rw [nodesEL_drop hg.out, HQ.out] at h
      by_cases hz : Q = 0
      case neg =>
        rw [if_pos hz] at h
        have hz' : (Q == 0) = false := by simpa using hz
        subst h
        clear hz
        go_wp2_with fail
        go_ret
        exact ⟨rfl, bel_tr HB1.out (bel_tr hb hb')⟩
      rw [if_neg (by simp [hz])] at h
      have HH := Lib.hid h
      subst hz
      clear h
      go_wp2_with fail
      go_roundw
      case rel => exact ⟨k + 1, by omega, by go_num, Lib.hid ⟨HH.out, bel_tr hb hb'⟩⟩
      case measure => simp [intOf]; omega
    · have hk' : ¬ (k : Int) < (l.length : Int) := by omega
      obtain rfl : R = 0 := by
        have h := hI.out.1
        rw [List.drop_of_length_le (by omega), nodesEL] at h
        exact h.symm
      go_wp2_with fail
      go_ret
      exact ⟨rfl, bel_tr HB1.out hb⟩
theorem rnodes_any (d : Nat) : ∀ (x : Ex) (v : Value) (w : World), IsExs d w v x.args → nodesN x ≤ 1048576 →
    Calls Tryz.prog 154 #[exV x v] w fun e w' => e = .returned (.int .i64 (nodesE x)) ∧ Below w.heap.size w w' := by
  induction d with
  | zero => exact rnodes_step 0 (fun d' h => by omega)
  | succ d ih => exact rnodes_step (d + 1) (fun d' h => Nat.succ.inj h ▸ ih)
set_option maxRecDepth 100000 in
set_option maxHeartbeats 2000000 in
theorem visit_step (d : Nat) (hrec : ∀ d', d = d' + 1 → ∀ (x : Ex) (v : Value) (w : World), IsExs d' w v x.args → nodesN x ≤ 1048576 →
      Calls Tryz.prog 141 #[exV x v, .func (.func 142) #[] #[]] w fun e w' => e = .returned (.int .i64 (nodesE x)) ∧ Below w.heap.size w w')
    (x : Ex) (v : Value) (w : World) (hx : IsExs d w v x.args) (hN : nodesN x ≤ 1048576) :
    Calls Tryz.prog 141 #[exV x v, .func (.func 142) #[] #[]] w fun e w' => e = .returned (.int .i64 (nodesE x)) ∧ Below w.heap.size w w' := by
  have HREC := Lib.hid hrec
  obtain ⟨op, l, vr, fl, kd, ⟨k0, n0, t0⟩⟩ := x
  rw [nodesE_eq]
  rw [nodesN_eq] at hN
  obtain ⟨A, c, rfl, h1, h2, hat⟩ := hx
  have HNO := Lib.hid (fun W => node_any (.mk op l vr fl kd ⟨k0, n0, t0⟩) A c W (by have := len_nodesL l; simp only [Ex.args] at hN ⊢; omega))
  obtain ⟨E, hE⟩ : ∃ E, nodeE (.mk op l vr fl kd ⟨k0, n0, t0⟩) = E := ⟨_, rfl⟩
  rw [hE] at HNO ⊢
  simp only [Ex.args] at hN h1 h2 hat ⊢
  have hn63 := len_i64 h1 h2
  have HL := Lib.hid hat
  have HN := Lib.hid hN
  obtain ⟨R, hR⟩ : ∃ R, nodesEL l = R := ⟨_, rfl⟩
  have HR := Lib.hid hR
  rw [hR]
  obtain ⟨S, hS⟩ : ∃ S, (if E ≠ 0 then E else R) = S := ⟨_, rfl⟩
  rw [hS]
  have HS := Lib.hid hS
  clear hS
  unfold exV at *
  simp only [Ex.args, Ex.op, Ex.vr, Ex.fl, Ex.kd, Ex.val] at HNO ⊢
  clear hat h1 h2 hR hN hrec hE
  go_enter Tryz.func141, Tryz.ntmps141
  go_wp2_with fail
  refine (HNO.out _).mono ?_
  rintro e w1 ⟨rfl, hb1⟩
  have y1 : w1.cell? ⟨w.heap.size, 1, none⟩ = some (.slice A l.length c) := by rw [(new_cells hb1).1]; rfl
  have HB1 := Lib.hid (bel_tr (bel_one w _) hb1)
  clear hb1
  by_cases hz : E = 0
  case neg =>
    have hz' : (E == 0) = false := by simpa using hz
    obtain rfl : E = S := by have h := HS.out; rwa [if_pos hz] at h
    clear hz HS
    go_wp2_with fail
    go_ret
    exact ⟨rfl, HB1.out⟩
  subst hz
  obtain rfl : R = S := by have h := HS.out; rwa [if_neg (by simp)] at h
  clear HS
  go_wp2_with fail
  go_loopw [18] (fun i wr => ∃ k : Nat, k ≤ l.length ∧ i = .int .i64 k ∧ Hid (nodesEL (l.drop k) = R ∧ Below w1.heap.size w1 wr)) (fun i _ => l.length - (intOf i).toNat)
  case atStart => exact ⟨0, Nat.zero_le _, rfl, Lib.hid ⟨HR.out, Below.refl _ _⟩⟩
  case round =>
    obtain ⟨k, hk, rfl, hI⟩ := hrel
    have hb := hI.out.2
    by_cases hlt : k < l.length
    · have hk' : (k : Int) < (l.length : Int) := by omega
      obtain ⟨b, o, rfl, hea⟩ := HL.out k l[k] (List.getElem?_eq_getElem hlt)
      have hg := Lib.hid (List.getElem?_eq_getElem hlt)
      obtain ⟨a, ha⟩ : ∃ a, a = l[k] := ⟨_, rfl⟩
      rw [← ha] at hg hea
      clear ha
      obtain ⟨d', v', hd', hv', p0, p1, p2, p3, p4, p5, p6, p7⟩ := ex_open (exAt_stays d _ _ _ _ _ (bel_tr HB1.out hb) hea)
      have hNa : nodesN a ≤ 1048576 := by have := nodesL_at hg.out; have := HN.out; omega
      have hv2 := hv'
      obtain ⟨A', c', hvv, -⟩ := hv2
      subst hvv
      obtain ⟨Q, hQ⟩ : ∃ Q, nodesE a = Q := ⟨_, rfl⟩
      have HC := Lib.hid (fun (W : World) (hW : Below wr.heap.size wr W) => HREC.out d' hd' a _ W (hv'.stays (exAt_stays d') hW) hNa)
      rw [hQ] at HC
      have HQ := Lib.hid hQ
      clear hQ hea hd' hv'
      go_wp2_with fail
      refine (HC.out _ ?_).mono ?_
      · exact (by repeat (first | exact Below.refl _ _ | assumption | refine Below.drew ?_ | refine bel_al ?_ _ | refine bel_set ?_ (by omega) _ | refine bel_tr ?_ (by assumption)))
      rintro e w' ⟨rfl, hb'⟩
      have h := hI.out.1
      rw [nodesEL_drop hg.out, HQ.out] at h
      by_cases hz : Q = 0
      case neg =>
        rw [if_pos hz] at h
        have hz' : (Q == 0) = false := by simpa using hz
        subst h
        clear hz
        go_wp2_with fail
        go_ret
        exact ⟨rfl, bel_tr HB1.out (bel_tr hb (bel_tr (by repeat (first | exact Below.refl _ _ | assumption | refine Below.drew ?_ | refine bel_al ?_ _ | refine bel_set ?_ (by omega) _ | refine bel_tr ?_ (by assumption))) hb'))⟩
      rw [if_neg (by simp [hz])] at h
      have HH := Lib.hid h
      subst hz
      clear h
      go_wp2_with fail
      go_roundw
      case rel => exact ⟨k + 1, by omega, by go_num, Lib.hid ⟨HH.out, bel_tr hb (bel_tr (by repeat (first | exact Below.refl _ _ | assumption | refine Below.drew ?_ | refine bel_al ?_ _ | refine bel_set ?_ (by omega) _ | refine bel_tr ?_ (by assumption))) hb')⟩⟩
      case measure => simp [intOf]; omega
    · have hk' : ¬ (k : Int) < (l.length : Int) := by omega
      obtain rfl : R = 0 := by
        have h := hI.out.1
        rw [List.drop_of_length_le (by omega), nodesEL] at h
        exact h.symm
      go_wp2_with fail
      go_ret
      exact ⟨rfl, bel_tr HB1.out hb⟩
theorem visit_any (d : Nat) : ∀ (x : Ex) (v : Value) (w : World), IsExs d w v x.args → nodesN x ≤ 1048576 →
    Calls Tryz.prog 141 #[exV x v, .func (.func 142) #[] #[]] w fun e w' => e = .returned (.int .i64 (nodesE x)) ∧ Below w.heap.size w w' := by
  induction d with
  | zero => exact visit_step 0 (fun d' h => by omega)
  | succ d ih => exact visit_step (d + 1) (fun d' h => Nat.succ.inj h ▸ ih)
end Go.Proofs.YtclpglgigpjfoaaGreatDoor
namespace Go.Proofs.YtclpglgigpjfoaaGreatDoor
open Go.RowKit

/-- the error of an expression -/
def chkE (x : Ex) : Int := if 64 < nodesN x then 5 else if 12 < depthN x then 12 else nodesE x
set_option maxRecDepth 100000 in
set_option maxHeartbeats 2000000 in
theorem check_any (d : Nat) (x : Ex) (v : Value) (w : World) (hx : IsExs d w v x.args) (hN : nodesN x ≤ 1048576) :
    Calls Tryz.prog 112 #[exV x v] w fun e w' => e = .returned (.int .i64 (chkE x)) ∧ Below w.heap.size w w' := by
  have HSZ := Lib.hid (fun (W : World) (hW : Below w.heap.size w W) => size_any d x v W (hx.stays (exAt_stays d) hW) hN)
  have HVI := Lib.hid (fun (W : World) (hW : Below w.heap.size w W) => visit_any d x v W (hx.stays (exAt_stays d) hW) hN)
  obtain ⟨R, hR⟩ : ∃ R, chkE x = R := ⟨_, rfl⟩
  obtain ⟨p, hp⟩ : ∃ p, nodesN x = p := ⟨_, rfl⟩
  obtain ⟨q, hq⟩ : ∃ q, depthN x = q := ⟨_, rfl⟩
  obtain ⟨z, hz⟩ : ∃ z, nodesE x = z := ⟨_, rfl⟩
  have HR : Hid (R = if 64 < p then 5 else if 12 < q then 12 else z) := Lib.hid (by rw [← hR, ← hp, ← hq, ← hz]; rfl)
  rw [hR]
  rw [hp, hq] at HSZ
  rw [hz] at HVI
  obtain ⟨op, l, vr, fl, kd, ⟨k0, n0, t0⟩⟩ := x
  obtain ⟨A, c, rfl, -⟩ := hx
  unfold exV at *
  simp only [Ex.args, Ex.op, Ex.vr, Ex.fl, Ex.kd, Ex.val] at *
  clear hR hp hq hz hN
  go_enter Tryz.func112, Tryz.ntmps112
  go_wp2_with fail
  refine (HSZ.out _ (bel_one _ _)).mono ?_
  rintro e w1 ⟨rfl, hb1⟩
  have hnew := (new_cells hb1).1
  have y0 : w1.cell? ⟨w.heap.size, 0, none⟩ = some (.int .i64 op) := by rw [hnew]; rfl
  have y1 : w1.cell? ⟨w.heap.size, 1, none⟩ = some (.slice A l.length c) := by rw [hnew]; rfl
  have y2 : w1.cell? ⟨w.heap.size, 2, none⟩ = some (.int .i64 vr) := by rw [hnew]; rfl
  have y3 : w1.cell? ⟨w.heap.size, 3, none⟩ = some (.int .i64 fl) := by rw [hnew]; rfl
  have y4 : w1.cell? ⟨w.heap.size, 4, none⟩ = some (.int .i64 kd) := by rw [hnew]; rfl
  have y5 : w1.cell? ⟨w.heap.size, 5, none⟩ = some (.int .i64 k0) := by rw [hnew]; rfl
  have y6 : w1.cell? ⟨w.heap.size, 6, none⟩ = some (.int .i64 n0) := by rw [hnew]; rfl
  have y7 : w1.cell? ⟨w.heap.size, 7, none⟩ = some (.string t0) := by rw [hnew]; rfl
  have HB1 := Lib.hid (bel_tr (bel_one w _) hb1)
  clear hnew hb1
  by_cases h1 : 64 < p
  · obtain rfl : R = 5 := by rw [HR.out, if_pos h1]
    have h1' : (64 : Int) < (p : Int) := by omega
    clear h1
    go_wp2_with fail
    go_ret
    exact ⟨rfl, HB1.out⟩
  have h1' : ¬ (64 : Int) < (p : Int) := by omega
  by_cases h2 : 12 < q
  · obtain rfl : R = 12 := by rw [HR.out, if_neg h1, if_pos h2]
    have h2' : (12 : Int) < (q : Int) := by omega
    clear h1 h2
    go_wp2_with fail
    go_ret
    exact ⟨rfl, HB1.out⟩
  have h2' : ¬ (12 : Int) < (q : Int) := by omega
  obtain rfl : R = z := by rw [HR.out, if_neg h1, if_neg h2]
  clear h1 h2 HR
  go_wp2_with fail
  refine (HVI.out _ HB1.out).mono ?_
  rintro e w2 ⟨rfl, hb2⟩
  go_wp2_with fail
  go_ret
  exact ⟨rfl, bel_tr HB1.out hb2⟩
set_option maxRecDepth 100000 in
set_option maxHeartbeats 2000000 in
theorem rcheck_any (d : Nat) (x : Ex) (v : Value) (w : World) (hx : IsExs d w v x.args) (hN : nodesN x ≤ 1048576) :
    Calls Tryz.prog 115 #[exV x v] w fun e w' => e = .returned (.int .i64 (chkE x)) ∧ Below w.heap.size w w' := by
  have HSZ : Hid (∀ W : World, Below w.heap.size w W → Calls Tryz.prog 78 #[exV x v, .int .i64 64] W fun e w' => e = .returned (.int .i64 (countN 64 x)) ∧ Below W.heap.size W w') := Lib.hid (fun W hW => rcount_any 64 (by decide) d x v W (hx.stays (exAt_stays d) hW) hN)
  have HDE := Lib.hid (fun (W : World) (hW : Below w.heap.size w W) => rdepth_any d x v W (hx.stays (exAt_stays d) hW) hN)
  have HVI := Lib.hid (fun (W : World) (hW : Below w.heap.size w W) => rnodes_any d x v W (hx.stays (exAt_stays d) hW) hN)
  obtain ⟨R, hR⟩ : ∃ R, chkE x = R := ⟨_, rfl⟩
  obtain ⟨p, hp⟩ : ∃ p, countN 64 x = p := ⟨_, rfl⟩
  obtain ⟨q, hq⟩ : ∃ q, depthN x = q := ⟨_, rfl⟩
  obtain ⟨z, hz⟩ : ∃ z, nodesE x = z := ⟨_, rfl⟩
  have HR : Hid (R = if 64 < p then 5 else if 12 < q then 12 else z) := Lib.hid (by rw [← hR, ← hp, ← hq, ← hz]; unfold chkE; have := countN_iff 64 x; split <;> split <;> first | rfl | omega)
  rw [hR]
  rw [hp] at HSZ
  rw [hq] at HDE
  rw [hz] at HVI
  obtain ⟨op, l, vr, fl, kd, ⟨k0, n0, t0⟩⟩ := x
  obtain ⟨A, c, rfl, -⟩ := hx
  unfold exV at *
  simp only [Ex.args, Ex.op, Ex.vr, Ex.fl, Ex.kd, Ex.val] at *
  clear hR hp hq hz hN
  go_enter Tryz.func115, Tryz.ntmps115
  go_wp2_with fail
  refine (HSZ.out _ (bel_one _ _)).mono ?_
  rintro e w1 ⟨rfl, hb1⟩
  have hnew := (new_cells hb1).1
  have y0 : w1.cell? ⟨w.heap.size, 0, none⟩ = some (.int .i64 op) := by rw [hnew]; rfl
  have y1 : w1.cell? ⟨w.heap.size, 1, none⟩ = some (.slice A l.length c) := by rw [hnew]; rfl
  have y2 : w1.cell? ⟨w.heap.size, 2, none⟩ = some (.int .i64 vr) := by rw [hnew]; rfl
  have y3 : w1.cell? ⟨w.heap.size, 3, none⟩ = some (.int .i64 fl) := by rw [hnew]; rfl
  have y4 : w1.cell? ⟨w.heap.size, 4, none⟩ = some (.int .i64 kd) := by rw [hnew]; rfl
  have y5 : w1.cell? ⟨w.heap.size, 5, none⟩ = some (.int .i64 k0) := by rw [hnew]; rfl
  have y6 : w1.cell? ⟨w.heap.size, 6, none⟩ = some (.int .i64 n0) := by rw [hnew]; rfl
  have y7 : w1.cell? ⟨w.heap.size, 7, none⟩ = some (.string t0) := by rw [hnew]; rfl
  have HB1 := Lib.hid (bel_tr (bel_one w _) hb1)
  clear hnew hb1
  by_cases h1 : 64 < p
  · obtain rfl : R = 5 := by rw [HR.out, if_pos h1]
    have h1' : (64 : Int) < (p : Int) := by omega
    clear h1
    go_wp2_with fail
    go_ret
    exact ⟨rfl, HB1.out⟩
  have h1' : ¬ (64 : Int) < (p : Int) := by omega
  go_wp2_with fail
  refine (HDE.out _ HB1.out).mono ?_
  rintro e w3 ⟨rfl, hb3⟩
  replace y0 := cell_stays hb3 y0
  replace y1 := cell_stays hb3 y1
  replace y2 := cell_stays hb3 y2
  replace y3 := cell_stays hb3 y3
  replace y4 := cell_stays hb3 y4
  replace y5 := cell_stays hb3 y5
  replace y6 := cell_stays hb3 y6
  replace y7 := cell_stays hb3 y7
  have HB3 := Lib.hid (bel_tr HB1.out hb3)
  clear hb3
  by_cases h2 : 12 < q
  · obtain rfl : R = 12 := by rw [HR.out, if_neg h1, if_pos h2]
    have h2' : (12 : Int) < (q : Int) := by omega
    clear h1 h2
    go_wp2_with fail
    go_ret
    exact ⟨rfl, HB3.out⟩
  have h2' : ¬ (12 : Int) < (q : Int) := by omega
  obtain rfl : R = z := by rw [HR.out, if_neg h1, if_neg h2]
  clear h1 h2 HR
  go_wp2_with fail
  refine (HVI.out _ HB3.out).mono ?_
  rintro e w2 ⟨rfl, hb2⟩
  go_wp2_with fail
  go_ret
  exact ⟨rfl, bel_tr HB3.out hb2⟩
end Go.Proofs.YtclpglgigpjfoaaGreatDoor
