/- The law DifferenceRefutes: a bound is implied exactly if its negation leaves no model; Inside and Meet. -/
import Derived.Test.YtgecbjjcjemcgaaRows
import Derived.Test.YtgecbjjcjemcgaaDopen
import Derived.Test.YtgecbjjcjemcgaaDawake
import Derived.Test.YtgecbjjcjemcgaaDplain
import Derived.Test.YtgecbjjcjemcgaaDcomp2
import Derived.ProofKit
import Derived.OpenShut
import Derived.ChangeOld
import Derived.Below
namespace Go.Proofs.Ytgecbjjcjemcgaa
open Go.ChangeShapes Go.WideShapes Go.ChangeAt Go.RowKit

theorem zns_two (W : World) (n : Int) (A : Option Addr) (m c : Nat) (xs : List Bd) (n' : Int) (B : Option Addr) (m' c' : Nat) (bs : List Bd) (k : Nat) (t : TypeId) (hk : k = W.heap.size) :
    IsZns (W.alloc (.cells #[.int .i64 n, .slice A m c, .int .i64 n', .slice B m' c'] t)) (.slice (some ⟨k, 0, none⟩) 2 2) [⟨n, A, m, c, xs⟩, ⟨n', B, m', c', bs⟩] := by
  subst hk
  refine ⟨_, _, rfl, Nat.le_refl _, by unfold maxLen; simp, ?_⟩
  intro i x hi
  match i, hi with
  | 0, hi => simp at hi; subst hi; exact ⟨_, _, rfl, by simp, by simp⟩
  | 1, hi => simp at hi; subst hi; exact ⟨_, _, rfl, by simp, by simp⟩
  | i + 2, hi => simp at hi

theorem refute_left {n : Nat} {xs : List Bd} (hz : zoneErr n xs = 0) {x y : Nat} {m : Int} (hx : x < n) (hy : y < n) : feas n ((xs ++ [(⟨y, x, -m - 1⟩ : Bd)]).map ed) = !hasB n xs ⟨x, y, m⟩ := by
  obtain ⟨-, -, -, hg⟩ := good_of hz
  rw [Int.toNat_natCast] at hg
  have hok := good_ok hg
  have e1 : List.map ed [(⟨(y : Int), (x : Int), -m - 1⟩ : Bd)] = [⟨y, x, -(m + 1)⟩] := by simp [ed]; omega
  rw [List.map_append, e1]
  cases hf : feas n (xs.map ed) with
  | false =>
    rw [hasB_no hf]
    simp only [Bool.not_true]
    rw [← Bool.not_eq_true]
    intro h
    obtain ⟨val, hv⟩ := (feas_iff (okE_app hok (okE_one hy hx))).1 h
    rw [(feas_iff hok).2 ⟨val, (satE_app.1 hv).1⟩] at hf
    cases hf
  | true =>
    have h := feas_add hok hf hx hy (m + 1)
    cases ht : tight n (xs.map ed) x y with
    | none =>
      rw [hasB_none hf (by simpa using ht)]
      simp only [Bool.not_false]
      exact h.2 (fun d hd => by rw [ht] at hd; cases hd)
    | some d =>
      rw [hasB_some hf (by simpa using ht)]
      by_cases hd : d ≤ m
      · rw [decide_eq_true hd]
        simp only [Bool.not_true]
        rw [← Bool.not_eq_true]
        intro h'
        have := h.1 h' d ht
        omega
      · rw [decide_eq_false hd]
        simp only [Bool.not_false]
        exact h.2 (fun d' hd' => by rw [ht] at hd'; injection hd' with hd'; omega)
theorem bdsErr_cat {n : Int} {a b : List Bd} (h1 : bdsErr n a = 0) (h2 : bdsErr n b = 0) : bdsErr n (a ++ b) = 0 := by
  induction a with
  | nil => exact h2
  | cons x a ih =>
    simp only [bdsErr] at h1
    by_cases hx : boundErr n x = 0
    · rw [if_pos hx] at h1
      simp only [List.cons_append, bdsErr]
      rw [if_pos hx]
      exact ih h1
    · rw [if_neg hx] at h1
      exact absurd h1 hx
theorem zoneErr_cat {n : Int} {a b : List Bd} (h1 : zoneErr n a = 0) (h2 : zoneErr n b = 0) (hl : a.length + b.length ≤ 256) : zoneErr n (a ++ b) = 0 := by
  obtain ⟨a1, a2, a3⟩ := zoneErr_parts.1 h1
  exact zoneErr_parts.2 ⟨a1, by simp; omega, bdsErr_cat a3 (zoneErr_parts.1 h2).2.2⟩
theorem holds_part {n : Int} {a b : List Bd} {vs : List Int} (h1 : zoneErr n a = 0) (h2 : zoneErr n b = 0) (hl : a.length + b.length ≤ 256) (h : holdsR n (a ++ b) vs = (true, 0)) : holdsR n a vs = (true, 0) ∧ holdsR n b vs = (true, 0) := by
  have hs : satB a vs = true ∧ satB b vs = true := by
    have := holdsR_sat (by rw [h] : (holdsR n (a ++ b) vs).1 = true)
    rw [List.map_append] at this
    exact ⟨satB_iff.2 (satE_app.1 this).1, satB_iff.2 (satE_app.1 this).2⟩
  unfold holdsR at h ⊢
  rw [if_pos (zoneErr_cat h1 h2 hl)] at h
  rw [if_pos h1, if_pos h2]
  split at h
  · rename_i c1
    split at h
    · simp at h
    · rename_i c2
      split at h
      · rename_i c3
        rw [if_pos c1, if_neg c2, if_pos c3, if_pos c1, if_neg c2, if_pos c3, hs.1, hs.2]
        exact ⟨rfl, rfl⟩
      · simp at h
  · simp at h
theorem inside_meet {n : Nat} {xs bs : List Bd} (hz : zoneErr n xs = 0) (hzb : zoneErr n bs = 0) (hf : feas n (xs.map ed) = true) (ha : bs.all (hasB n xs) = true) : feas n ((xs ++ bs).map ed) = true := by
  obtain ⟨-, -, -, hg⟩ := good_of hz
  obtain ⟨-, -, -, hgb⟩ := good_of hzb
  rw [Int.toNat_natCast] at hg hgb
  have hok := good_ok hg
  have hokb := good_ok hgb
  rw [List.map_append]
  refine (feas_iff (okE_app hok hokb)).2 ⟨_, satE_app.2 ⟨feas_sat hf, ?_⟩⟩
  intro e he
  obtain ⟨b, hb, rfl⟩ := List.mem_map.1 he
  have h1 := List.all_eq_true.1 ha b hb
  obtain ⟨hx, hy⟩ := hokb _ he
  cases ht : tight n (xs.map ed) b.x.toNat b.y.toNat with
  | none => rw [hasB_none hf ht] at h1; cases h1
  | some d =>
    rw [hasB_some hf ht] at h1
    have h2 : d ≤ b.most := of_decide_eq_true h1
    obtain ⟨⟨fs, hw, hwt⟩, -⟩ := (tight_least hok (feas_sat hf) hx hy).1 d ht
    have h3 := way_sat (feas_sat hf) hw
    simp only [ed] at h3 ⊢
    omega

set_option maxRecDepth 100000 in
set_option maxHeartbeats 4000000 in
theorem refutes_walk (na : Int) (xs : List Bd) (va : Value) (nb : Int) (bs : List Bd) (vb : Value) (bd : Bd) (w : World) (ha : IsBds w va xs) (hb : IsBds w vb bs) :
    Calls Try.prog 11 #[zoneV na va, zoneV nb vb, bdV bd] w fun e w' => e = .returned (.bool true) ∧ Below w.heap.size w w' := by
  unfold zoneV bdV
  have HA := Lib.hid ha
  have HB := Lib.hid hb
  obtain ⟨A, ca, rfl, -⟩ := ha
  obtain ⟨B, cb, rfl, k1, k2, hbt⟩ := hb
  have HBT := Lib.hid hbt
  clear k1 k2 hbt
  obtain ⟨f1, hf1⟩ : ∃ f1, (!([(⟨na, A, xs.length, ca, xs⟩ : Zn), ⟨nb, B, bs.length, cb, bs⟩].any badZ)) = f1 := ⟨_, rfl⟩
  have HF1 := Lib.hid hf1
  cases f1 with
  | false =>
    clear hf1
    go_enter Try.func11, Try.ntmps11
    go_wp2_with (first
      | (go_at_call 25; refine (good_any [⟨na, A, xs.length, ca, xs⟩, ⟨nb, B, bs.length, cb, bs⟩] _ _ (zns_two _ na A xs.length ca xs nb B bs.length cb bs _ _ (by simp)) (fun z hz => by rcases List.mem_cons.1 hz with h | h; rw [h]; exact HA.out.stays bdAt_stays (bel_al (bel_al (bel_al (bel_one _ _) _) _) _); rw [List.mem_singleton.1 h]; exact HB.out.stays bdAt_stays (bel_al (bel_al (bel_al (bel_one _ _) _) _) _))).mono ?_; rw [HF1.out]; rintro e w1 ⟨rfl, hb1⟩; obtain ⟨hza, hzb, hzc, hrf, hbw, hsz⟩ := three_cells (bel_tr (bel_one _ _) hb1); have a0 : w1.cell? ⟨w.heap.size, 0, none⟩ = some (.int .i64 na) := hza 0; have a1 : w1.cell? ⟨w.heap.size, 1, none⟩ = some (.slice A xs.length ca) := hza 1; have b0 : w1.cell? ⟨w.heap.size + 1, 0, none⟩ = some (.int .i64 nb) := hzb 0; have b1 : w1.cell? ⟨w.heap.size + 1, 1, none⟩ = some (.slice B bs.length cb) := hzb 1; have c0 : w1.cell? ⟨w.heap.size + 1 + 1, 0, none⟩ = some (.int .i64 bd.x) := hzc 0; have c1 : w1.cell? ⟨w.heap.size + 1 + 1, 1, none⟩ = some (.int .i64 bd.y) := hzc 1; have c2 : w1.cell? ⟨w.heap.size + 1 + 1, 2, none⟩ = some (.int .i64 bd.most) := hzc 2; clear hb1 hrf hza hzb hzc)
      | (go_at_call 13; refine (awake_any _).mono ?_; rintro e w9 ⟨rfl, hb9⟩))
    go_ret
    exact ⟨rfl, bel_tr hbw hb9⟩
  | true =>
    have hg : (na ≤ 6 ∧ xs.length ≤ 12 ∧ zoneErr na xs = 0) ∧ nb ≤ 6 ∧ bs.length ≤ 12 ∧ zoneErr nb bs = 0 := by
      simp [badZ] at hf1
      omega
    obtain ⟨⟨hn6, hl12, hz0⟩, -, hl12', hz1⟩ := hg
    have HZ := Lib.hid hz0
    have HZB := Lib.hid hz1
    have hn1 := (good_of hz0).1
    clear hf1 hz0 hz1
    by_cases hnn : na = nb
    · have gnn : (na != nb) = false := by simpa using hnn
      by_cases hx0 : bd.x < 0
      · clear hnn
        go_enter Try.func11, Try.ntmps11
        go_wp2_with (first
          | (go_at_call 25; refine (good_any [⟨na, A, xs.length, ca, xs⟩, ⟨nb, B, bs.length, cb, bs⟩] _ _ (zns_two _ na A xs.length ca xs nb B bs.length cb bs _ _ (by simp)) (fun z hz => by rcases List.mem_cons.1 hz with h | h; rw [h]; exact HA.out.stays bdAt_stays (bel_al (bel_al (bel_al (bel_one _ _) _) _) _); rw [List.mem_singleton.1 h]; exact HB.out.stays bdAt_stays (bel_al (bel_al (bel_al (bel_one _ _) _) _) _))).mono ?_; rw [HF1.out]; rintro e w1 ⟨rfl, hb1⟩; obtain ⟨hza, hzb, hzc, hrf, hbw, hsz⟩ := three_cells (bel_tr (bel_one _ _) hb1); have a0 : w1.cell? ⟨w.heap.size, 0, none⟩ = some (.int .i64 na) := hza 0; have a1 : w1.cell? ⟨w.heap.size, 1, none⟩ = some (.slice A xs.length ca) := hza 1; have b0 : w1.cell? ⟨w.heap.size + 1, 0, none⟩ = some (.int .i64 nb) := hzb 0; have b1 : w1.cell? ⟨w.heap.size + 1, 1, none⟩ = some (.slice B bs.length cb) := hzb 1; have c0 : w1.cell? ⟨w.heap.size + 1 + 1, 0, none⟩ = some (.int .i64 bd.x) := hzc 0; have c1 : w1.cell? ⟨w.heap.size + 1 + 1, 1, none⟩ = some (.int .i64 bd.y) := hzc 1; have c2 : w1.cell? ⟨w.heap.size + 1 + 1, 2, none⟩ = some (.int .i64 bd.most) := hzc 2; clear hb1 hrf hza hzb hzc)
          | (go_at_call 13; refine (awake_any _).mono ?_; rintro e w9 ⟨rfl, hb9⟩))
        go_ret
        exact ⟨rfl, bel_tr hbw hb9⟩
      · have dhx0 : decide (bd.x < 0) = false := decide_eq_false hx0
        by_cases hx1 : na ≤ bd.x
        · clear hnn
          go_enter Try.func11, Try.ntmps11
          go_wp2_with (first
            | (go_at_call 25; refine (good_any [⟨na, A, xs.length, ca, xs⟩, ⟨nb, B, bs.length, cb, bs⟩] _ _ (zns_two _ na A xs.length ca xs nb B bs.length cb bs _ _ (by simp)) (fun z hz => by rcases List.mem_cons.1 hz with h | h; rw [h]; exact HA.out.stays bdAt_stays (bel_al (bel_al (bel_al (bel_one _ _) _) _) _); rw [List.mem_singleton.1 h]; exact HB.out.stays bdAt_stays (bel_al (bel_al (bel_al (bel_one _ _) _) _) _))).mono ?_; rw [HF1.out]; rintro e w1 ⟨rfl, hb1⟩; obtain ⟨hza, hzb, hzc, hrf, hbw, hsz⟩ := three_cells (bel_tr (bel_one _ _) hb1); have a0 : w1.cell? ⟨w.heap.size, 0, none⟩ = some (.int .i64 na) := hza 0; have a1 : w1.cell? ⟨w.heap.size, 1, none⟩ = some (.slice A xs.length ca) := hza 1; have b0 : w1.cell? ⟨w.heap.size + 1, 0, none⟩ = some (.int .i64 nb) := hzb 0; have b1 : w1.cell? ⟨w.heap.size + 1, 1, none⟩ = some (.slice B bs.length cb) := hzb 1; have c0 : w1.cell? ⟨w.heap.size + 1 + 1, 0, none⟩ = some (.int .i64 bd.x) := hzc 0; have c1 : w1.cell? ⟨w.heap.size + 1 + 1, 1, none⟩ = some (.int .i64 bd.y) := hzc 1; have c2 : w1.cell? ⟨w.heap.size + 1 + 1, 2, none⟩ = some (.int .i64 bd.most) := hzc 2; clear hb1 hrf hza hzb hzc)
            | (go_at_call 13; refine (awake_any _).mono ?_; rintro e w9 ⟨rfl, hb9⟩))
          go_ret
          exact ⟨rfl, bel_tr hbw hb9⟩
        · have dhx1 : decide (na ≤ bd.x) = false := decide_eq_false hx1
          by_cases hy0 : bd.y < 0
          · clear hnn
            go_enter Try.func11, Try.ntmps11
            go_wp2_with (first
              | (go_at_call 25; refine (good_any [⟨na, A, xs.length, ca, xs⟩, ⟨nb, B, bs.length, cb, bs⟩] _ _ (zns_two _ na A xs.length ca xs nb B bs.length cb bs _ _ (by simp)) (fun z hz => by rcases List.mem_cons.1 hz with h | h; rw [h]; exact HA.out.stays bdAt_stays (bel_al (bel_al (bel_al (bel_one _ _) _) _) _); rw [List.mem_singleton.1 h]; exact HB.out.stays bdAt_stays (bel_al (bel_al (bel_al (bel_one _ _) _) _) _))).mono ?_; rw [HF1.out]; rintro e w1 ⟨rfl, hb1⟩; obtain ⟨hza, hzb, hzc, hrf, hbw, hsz⟩ := three_cells (bel_tr (bel_one _ _) hb1); have a0 : w1.cell? ⟨w.heap.size, 0, none⟩ = some (.int .i64 na) := hza 0; have a1 : w1.cell? ⟨w.heap.size, 1, none⟩ = some (.slice A xs.length ca) := hza 1; have b0 : w1.cell? ⟨w.heap.size + 1, 0, none⟩ = some (.int .i64 nb) := hzb 0; have b1 : w1.cell? ⟨w.heap.size + 1, 1, none⟩ = some (.slice B bs.length cb) := hzb 1; have c0 : w1.cell? ⟨w.heap.size + 1 + 1, 0, none⟩ = some (.int .i64 bd.x) := hzc 0; have c1 : w1.cell? ⟨w.heap.size + 1 + 1, 1, none⟩ = some (.int .i64 bd.y) := hzc 1; have c2 : w1.cell? ⟨w.heap.size + 1 + 1, 2, none⟩ = some (.int .i64 bd.most) := hzc 2; clear hb1 hrf hza hzb hzc)
              | (go_at_call 13; refine (awake_any _).mono ?_; rintro e w9 ⟨rfl, hb9⟩))
            go_ret
            exact ⟨rfl, bel_tr hbw hb9⟩
          · have dhy0 : decide (bd.y < 0) = false := decide_eq_false hy0
            by_cases hy1 : na ≤ bd.y
            · clear hnn
              go_enter Try.func11, Try.ntmps11
              go_wp2_with (first
                | (go_at_call 25; refine (good_any [⟨na, A, xs.length, ca, xs⟩, ⟨nb, B, bs.length, cb, bs⟩] _ _ (zns_two _ na A xs.length ca xs nb B bs.length cb bs _ _ (by simp)) (fun z hz => by rcases List.mem_cons.1 hz with h | h; rw [h]; exact HA.out.stays bdAt_stays (bel_al (bel_al (bel_al (bel_one _ _) _) _) _); rw [List.mem_singleton.1 h]; exact HB.out.stays bdAt_stays (bel_al (bel_al (bel_al (bel_one _ _) _) _) _))).mono ?_; rw [HF1.out]; rintro e w1 ⟨rfl, hb1⟩; obtain ⟨hza, hzb, hzc, hrf, hbw, hsz⟩ := three_cells (bel_tr (bel_one _ _) hb1); have a0 : w1.cell? ⟨w.heap.size, 0, none⟩ = some (.int .i64 na) := hza 0; have a1 : w1.cell? ⟨w.heap.size, 1, none⟩ = some (.slice A xs.length ca) := hza 1; have b0 : w1.cell? ⟨w.heap.size + 1, 0, none⟩ = some (.int .i64 nb) := hzb 0; have b1 : w1.cell? ⟨w.heap.size + 1, 1, none⟩ = some (.slice B bs.length cb) := hzb 1; have c0 : w1.cell? ⟨w.heap.size + 1 + 1, 0, none⟩ = some (.int .i64 bd.x) := hzc 0; have c1 : w1.cell? ⟨w.heap.size + 1 + 1, 1, none⟩ = some (.int .i64 bd.y) := hzc 1; have c2 : w1.cell? ⟨w.heap.size + 1 + 1, 2, none⟩ = some (.int .i64 bd.most) := hzc 2; clear hb1 hrf hza hzb hzc)
                | (go_at_call 13; refine (awake_any _).mono ?_; rintro e w9 ⟨rfl, hb9⟩))
              go_ret
              exact ⟨rfl, bel_tr hbw hb9⟩
            · have dhy1 : decide (na ≤ bd.y) = false := decide_eq_false hy1
              by_cases hm0 : bd.most < -1000
              · clear hnn
                go_enter Try.func11, Try.ntmps11
                go_wp2_with (first
                  | (go_at_call 25; refine (good_any [⟨na, A, xs.length, ca, xs⟩, ⟨nb, B, bs.length, cb, bs⟩] _ _ (zns_two _ na A xs.length ca xs nb B bs.length cb bs _ _ (by simp)) (fun z hz => by rcases List.mem_cons.1 hz with h | h; rw [h]; exact HA.out.stays bdAt_stays (bel_al (bel_al (bel_al (bel_one _ _) _) _) _); rw [List.mem_singleton.1 h]; exact HB.out.stays bdAt_stays (bel_al (bel_al (bel_al (bel_one _ _) _) _) _))).mono ?_; rw [HF1.out]; rintro e w1 ⟨rfl, hb1⟩; obtain ⟨hza, hzb, hzc, hrf, hbw, hsz⟩ := three_cells (bel_tr (bel_one _ _) hb1); have a0 : w1.cell? ⟨w.heap.size, 0, none⟩ = some (.int .i64 na) := hza 0; have a1 : w1.cell? ⟨w.heap.size, 1, none⟩ = some (.slice A xs.length ca) := hza 1; have b0 : w1.cell? ⟨w.heap.size + 1, 0, none⟩ = some (.int .i64 nb) := hzb 0; have b1 : w1.cell? ⟨w.heap.size + 1, 1, none⟩ = some (.slice B bs.length cb) := hzb 1; have c0 : w1.cell? ⟨w.heap.size + 1 + 1, 0, none⟩ = some (.int .i64 bd.x) := hzc 0; have c1 : w1.cell? ⟨w.heap.size + 1 + 1, 1, none⟩ = some (.int .i64 bd.y) := hzc 1; have c2 : w1.cell? ⟨w.heap.size + 1 + 1, 2, none⟩ = some (.int .i64 bd.most) := hzc 2; clear hb1 hrf hza hzb hzc)
                  | (go_at_call 13; refine (awake_any _).mono ?_; rintro e w9 ⟨rfl, hb9⟩))
                go_ret
                exact ⟨rfl, bel_tr hbw hb9⟩
              · have dhm0 : decide (bd.most < -1000) = false := decide_eq_false hm0
                by_cases hm1 : 1000 < bd.most
                · clear hnn
                  go_enter Try.func11, Try.ntmps11
                  go_wp2_with (first
                    | (go_at_call 25; refine (good_any [⟨na, A, xs.length, ca, xs⟩, ⟨nb, B, bs.length, cb, bs⟩] _ _ (zns_two _ na A xs.length ca xs nb B bs.length cb bs _ _ (by simp)) (fun z hz => by rcases List.mem_cons.1 hz with h | h; rw [h]; exact HA.out.stays bdAt_stays (bel_al (bel_al (bel_al (bel_one _ _) _) _) _); rw [List.mem_singleton.1 h]; exact HB.out.stays bdAt_stays (bel_al (bel_al (bel_al (bel_one _ _) _) _) _))).mono ?_; rw [HF1.out]; rintro e w1 ⟨rfl, hb1⟩; obtain ⟨hza, hzb, hzc, hrf, hbw, hsz⟩ := three_cells (bel_tr (bel_one _ _) hb1); have a0 : w1.cell? ⟨w.heap.size, 0, none⟩ = some (.int .i64 na) := hza 0; have a1 : w1.cell? ⟨w.heap.size, 1, none⟩ = some (.slice A xs.length ca) := hza 1; have b0 : w1.cell? ⟨w.heap.size + 1, 0, none⟩ = some (.int .i64 nb) := hzb 0; have b1 : w1.cell? ⟨w.heap.size + 1, 1, none⟩ = some (.slice B bs.length cb) := hzb 1; have c0 : w1.cell? ⟨w.heap.size + 1 + 1, 0, none⟩ = some (.int .i64 bd.x) := hzc 0; have c1 : w1.cell? ⟨w.heap.size + 1 + 1, 1, none⟩ = some (.int .i64 bd.y) := hzc 1; have c2 : w1.cell? ⟨w.heap.size + 1 + 1, 2, none⟩ = some (.int .i64 bd.most) := hzc 2; clear hb1 hrf hza hzb hzc)
                    | (go_at_call 13; refine (awake_any _).mono ?_; rintro e w9 ⟨rfl, hb9⟩))
                  go_ret
                  exact ⟨rfl, bel_tr hbw hb9⟩
                · have dhm1 : decide (1000 < bd.most) = false := decide_eq_false hm1
                  subst hnn
                  obtain ⟨N, rfl⟩ := Int.eq_ofNat_of_zero_le (by omega : 0 ≤ na)
                  obtain ⟨x, y, m⟩ := bd
                  simp only at hx0 hx1 hy0 hy1 hm0 hm1 dhx0 dhx1 dhy0 dhy1 dhm0 dhm1 ⊢
                  obtain ⟨X, rfl⟩ := Int.eq_ofNat_of_zero_le (by omega : 0 ≤ x)
                  obtain ⟨Y, rfl⟩ := Int.eq_ofNat_of_zero_le (by omega : 0 ≤ y)
                  have hX : X < N := by omega
                  have hY : Y < N := by omega
                  obtain ⟨nk, hnk⟩ : ∃ a, a = -m := ⟨_, rfl⟩
                  obtain ⟨nj, hnj⟩ : ∃ a, a = nk - 1 := ⟨_, rfl⟩
                  have hwk : IntKind.i64.wrap (-m) = nk := by rw [hnk]; exact IntWalk.i64_in _ (by omega)
                  have hwj : IntKind.i64.wrap (nk - 1) = nj := by rw [hnj]; exact IntWalk.i64_in _ (by omega)
                  have hz7 := zoneErr_app HZ.out (by omega : xs.length < 256) (boundErr_ok (n := (N : Int)) (b := ⟨(Y : Int), (X : Int), nj⟩) (by simp only; omega) (by simp only; omega) (by simp only; omega) (by simp only; omega) (by simp only; omega) (by simp only; omega))
                  obtain ⟨r, hr⟩ : ∃ r, hasB N xs ⟨(X : Int), (Y : Int), m⟩ = r := ⟨_, rfl⟩
                  have hlf := refute_left HZ.out hX hY (m := m)
                  rw [hr, show -m - 1 = nj by omega] at hlf
                  obtain ⟨l7, e7⟩ : ∃ l, xs ++ [⟨(Y : Int), (X : Int), nj⟩] = l := ⟨_, rfl⟩
                  have HS7 : Hid ((decide (zoneErr (N : Int) l7 = 0) && feas (N : Int).toNat (List.map ed l7)) = !r ∧ decide (zoneErr (N : Int) l7 = 0) = true) := Lib.hid (by
                    rw [← e7, hz7, Int.toNat_natCast, hlf]
                    simp)
                  have H7 := Lib.hid e7
                  have HI : Hid (impliesR N xs ⟨(X : Int), (Y : Int), m⟩ = (r, 0)) := Lib.hid (by
                    unfold impliesR
                    rw [if_pos HZ.out, if_pos (boundErr_ok (by simp only; omega) (by simp only; omega) (by simp only; omega) (by simp only; omega) (by simp only; omega) (by simp only; omega)), Int.toNat_natCast, hr])
                  have hbe : bothErr N xs N bs = 0 := by unfold bothErr; rw [if_pos HZ.out, if_pos HZB.out, if_pos rfl]
                  obtain ⟨ins, hins⟩ : ∃ r, bs.all (hasB N xs) = r := ⟨_, rfl⟩
                  have HIN : Hid (insideR N xs N bs = (ins, 0)) := Lib.hid (by unfold insideR; rw [if_pos hbe, Int.toNat_natCast, hins])
                  obtain ⟨lm, hlm⟩ : ∃ l, xs ++ bs = l := ⟨_, rfl⟩
                  have HMT : Hid (meetR N xs N bs = ((N : Int), lm, 0)) := Lib.hid (by unfold meetR; rw [if_pos hbe, if_neg (by omega), hlm])
                  have HLM := Lib.hid hlm
                  have HINS := Lib.hid hins
                  have HZM : Hid (zoneErr (N : Int) lm = 0) := Lib.hid (by rw [← hlm]; exact zoneErr_cat HZ.out HZB.out (by omega))
                  have gr : (r == !r) = false := by cases r <;> rfl
                  clear hz7 hlf e7 hnk hnj hr hbe hins hlm
                  go_enter Try.func11, Try.ntmps11
                  go_wp2_with (first
                    | (go_at_call 25; refine (good_any [⟨(N : Int), A, xs.length, ca, xs⟩, ⟨(N : Int), B, bs.length, cb, bs⟩] _ _ (zns_two _ (N : Int) A xs.length ca xs (N : Int) B bs.length cb bs _ _ (by simp)) (fun z hz => by rcases List.mem_cons.1 hz with h | h; rw [h]; exact HA.out.stays bdAt_stays (bel_al (bel_al (bel_al (bel_one _ _) _) _) _); rw [List.mem_singleton.1 h]; exact HB.out.stays bdAt_stays (bel_al (bel_al (bel_al (bel_one _ _) _) _) _))).mono ?_; rw [HF1.out]; rintro e w1 ⟨rfl, hb1⟩; obtain ⟨hza, hzb, hzc, hrf, hbw, hsz⟩ := three_cells (bel_tr (bel_one _ _) hb1); have a0 : w1.cell? ⟨w.heap.size, 0, none⟩ = some (.int .i64 (N : Int)) := hza 0; have a1 : w1.cell? ⟨w.heap.size, 1, none⟩ = some (.slice A xs.length ca) := hza 1; have b0 : w1.cell? ⟨w.heap.size + 1, 0, none⟩ = some (.int .i64 (N : Int)) := hzb 0; have b1 : w1.cell? ⟨w.heap.size + 1, 1, none⟩ = some (.slice B bs.length cb) := hzb 1; have c0 : w1.cell? ⟨w.heap.size + 1 + 1, 0, none⟩ = some (.int .i64 (X : Int)) := hzc 0; have c1 : w1.cell? ⟨w.heap.size + 1 + 1, 1, none⟩ = some (.int .i64 (Y : Int)) := hzc 1; have c2 : w1.cell? ⟨w.heap.size + 1 + 1, 2, none⟩ = some (.int .i64 m) := hzc 2; clear hb1 hrf hza hzb hzc)
                    | (go_at_call 35; refine (implies_any N hn6 xs _ ⟨(X : Int), (Y : Int), m⟩ _ (HA.out.stays bdAt_stays hbw)).mono ?_; rw [HI.out]; rintro e w2 ⟨rfl, hb2⟩; replace a0 := cell_stays hb2 a0; replace a1 := cell_stays hb2 a1; replace b0 := cell_stays hb2 b0; replace b1 := cell_stays hb2 b1; replace c0 := cell_stays hb2 c0; replace c1 := cell_stays hb2 c1; replace c2 := cell_stays hb2 c2; replace hbw := bel_tr hbw hb2; clear hb2))
                  refine (with_any N xs _ Y X nj _ (HA.out.stays bdAt_stays hbw) (by omega)).mono ?_
                  rw [H7.out]
                  rintro e w3 ⟨v3, rfl, hq3, hb3⟩
                  replace a0 := cell_stays hb3 a0; replace a1 := cell_stays hb3 a1; replace b0 := cell_stays hb3 b0; replace b1 := cell_stays hb3 b1; replace c0 := cell_stays hb3 c0; replace c1 := cell_stays hb3 c1; replace c2 := cell_stays hb3 c2; replace hbw := bel_tr hbw hb3; clear hb3
                  have HQ3 := Lib.hid hq3
                  obtain ⟨A3, c3, rfl, -⟩ := hq3
                  simp only [zoneV]
                  go_wp2_with fail
                  refine (solvable_any N hn6 l7 _ _ HQ3.out).mono ?_
                  rw [HS7.out.1, HS7.out.2]
                  rintro e w4 ⟨rfl, hb4⟩
                  replace a0 := cell_stays hb4 a0; replace a1 := cell_stays hb4 a1; replace b0 := cell_stays hb4 b0; replace b1 := cell_stays hb4 b1; replace c0 := cell_stays hb4 c0; replace c1 := cell_stays hb4 c1; replace c2 := cell_stays hb4 c2; replace hbw := bel_tr hbw hb4; clear hb4
                  go_wp2_with (go_at_call 37; refine (inside_any N hn6 xs N bs _ _ _ (HA.out.stays bdAt_stays hbw) (HB.out.stays bdAt_stays hbw)).mono ?_; rw [HIN.out]; rintro e w5 ⟨rfl, hb5⟩; replace a0 := cell_stays hb5 a0; replace a1 := cell_stays hb5 a1; replace b0 := cell_stays hb5 b0; replace b1 := cell_stays hb5 b1; replace c0 := cell_stays hb5 c0; replace c1 := cell_stays hb5 c1; replace c2 := cell_stays hb5 c2; replace hbw := bel_tr hbw hb5; clear hb5)
                  refine (meet_any N xs N bs _ _ _ (HA.out.stays bdAt_stays hbw) (HB.out.stays bdAt_stays hbw)).mono ?_
                  rw [HMT.out]
                  rintro e w6 ⟨v6, rfl, hq6, hb6⟩
                  replace a0 := cell_stays hb6 a0; replace a1 := cell_stays hb6 a1; replace b0 := cell_stays hb6 b0; replace b1 := cell_stays hb6 b1; replace c0 := cell_stays hb6 c0; replace c1 := cell_stays hb6 c1; replace c2 := cell_stays hb6 c2; replace hbw := bel_tr hbw hb6; clear hb6
                  simp only at hq6
                  have HQ6 := Lib.hid hq6
                  obtain ⟨A6, c6, rfl, -⟩ := hq6
                  have la : w.heap.size < w6.heap.size := World.block_lt_of_cell? w6 _ a0
                  have lb : w.heap.size + 1 < w6.heap.size := World.block_lt_of_cell? w6 _ b0
                  simp only [zoneV]
                  clear c0 c1 c2
                  go_wp2_with fail
                  refine wp_gen ?_
                  intro W7 hW7
                  have hb7 : Below w6.heap.size w6 W7 := by rw [hW7]; exact bel_one _ _
                  have m0 : W7.cell? ⟨w6.heap.size, 0, none⟩ = some (.int .i64 (N : Int)) := by rw [hW7]; exact (new_cells (Below.refl _ _)).1 0
                  have m1 : W7.cell? ⟨w6.heap.size, 1, none⟩ = some (.slice A6 lm.length c6) := by rw [hW7]; exact (new_cells (Below.refl _ _)).1 1
                  replace a0 := cell_stays hb7 a0
                  replace a1 := cell_stays hb7 a1
                  replace b0 := cell_stays hb7 b0
                  replace b1 := cell_stays hb7 b1
                  replace hbw := bel_tr hbw hb7
                  have HQ7 := Lib.hid (HQ6.out.stays bdAt_stays hb7)
                  clear hW7 hb7 la lb HQ6
                  go_loopw [15, 126] (fun al i wr => ∃ k : Nat, k ≤ bs.length ∧ i = .int .i64 k ∧ al = .bool ((bs.take k).all (hasB N xs)) ∧ Below W7.heap.size W7 wr) (fun _ i _ => bs.length - (intOf i).toNat)
                  case atStart => exact ⟨0, Nat.zero_le _, rfl, rfl, Below.refl _ _⟩
                  case round =>
                    obtain ⟨k, hk, rfl, rfl, hb⟩ := hrel
                    replace a0 := cell_stays hb a0
                    replace a1 := cell_stays hb a1
                    by_cases hlt : k < bs.length
                    · have hk' : (k : Int) < (bs.length : Int) := by omega
                      have hget := List.getElem?_eq_getElem hlt
                      obtain ⟨b, hbk⟩ : ∃ b, b = bs[k] := ⟨_, rfl⟩
                      rw [← hbk] at hget
                      have hgb := (good_of HZB.out).2.2.2 b (by rw [hbk]; exact List.getElem_mem hlt)
                      rw [Int.toNat_natCast] at hgb
                      obtain ⟨rb, hrb⟩ : ∃ r, hasB N xs b = r := ⟨_, rfl⟩
                      obtain ⟨al, hal⟩ : ∃ r, (bs.take k).all (hasB N xs) = r := ⟨_, rfl⟩
                      have HAL : Hid ((bs.take (k + 1)).all (hasB N xs) = (al && rb)) := Lib.hid (by rw [take_snoc' hget, List.all_append, hal]; simp [hrb])
                      have HIB : Hid (impliesR N xs b = (rb, 0)) := Lib.hid (by
                        unfold impliesR
                        rw [if_pos HZ.out, if_pos (boundErr_ok hgb.1 hgb.2.1 hgb.2.2.1 hgb.2.2.2.1 hgb.2.2.2.2.1 hgb.2.2.2.2.2), Int.toNat_natCast, hrb])
                      obtain ⟨gb, ob, rfl, p0, p1, p2⟩ := HBT.out k b hget
                      rw [hal]
                      replace p0 := cell_stays (bel_tr hbw hb) p0
                      replace p1 := cell_stays (bel_tr hbw hb) p1
                      replace p2 := cell_stays (bel_tr hbw hb) p2
                      have hbl := World.block_lt_of_cell? wr _ p0
                      have la : w.heap.size < wr.heap.size := World.block_lt_of_cell? wr _ a0
                      simp only at hbl
                      clear hget hbk hgb hrb hal
                      cases al with
                      | true =>
                        go_wp2_with (go_at_call 35; refine (implies_any N hn6 xs _ b _ (HA.out.stays bdAt_stays (bel_tr hbw (bel_al hb _)))).mono ?_; rw [HIB.out]; rintro e w8 ⟨rfl, hb8⟩)
                        go_roundw
                        case rel => exact ⟨k + 1, by omega, by go_num, by rw [HAL.out]; simp, bel_tr (bel_al hb _) hb8⟩
                        case measure => simp [intOf]; omega
                      | false =>
                        go_wp2_with (go_at_call 35; refine (implies_any N hn6 xs _ b _ (HA.out.stays bdAt_stays (bel_tr hbw (bel_al hb _)))).mono ?_; rw [HIB.out]; rintro e w8 ⟨rfl, hb8⟩)
                        go_roundw
                        case rel => exact ⟨k + 1, by omega, by go_num, by rw [HAL.out]; simp, bel_tr (bel_al hb _) hb8⟩
                        case measure => simp [intOf]; omega
                    · obtain rfl : k = bs.length := by omega
                      rw [List.take_length, HINS.out]
                      replace b0 := cell_stays hb b0
                      replace b1 := cell_stays hb b1
                      replace m0 := cell_stays hb m0
                      replace m1 := cell_stays hb m1
                      replace hbw := bel_tr hbw hb
                      have HQ8 := Lib.hid (HQ7.out.stays bdAt_stays hb)
                      clear hb hk hlt HQ7
                      go_wp2_with fail
                      refine (zsolve_any N hn6 lm _ _ HQ8.out).mono ?_
                      rintro e w9 ⟨hb9, h9⟩
                      replace a0 := cell_stays hb9 a0
                      replace a1 := cell_stays hb9 a1
                      replace b0 := cell_stays hb9 b0
                      replace b1 := cell_stays hb9 b1
                      replace hbw := bel_tr hbw hb9
                      clear hb9
                      rw [Int.toNat_natCast] at h9
                      rcases h9 with ⟨h9, rfl⟩ | ⟨-, hfe, v9, rfl, hq9⟩ | ⟨-, hfe, L, A9, c9, rfl, -, -, -⟩
                      · exact absurd HZM.out h9
                      · have hmh := model_holds HZM.out hn6 (by rw [← HLM.out]; simp; omega) (by rw [Int.toNat_natCast]; exact hfe)
                        rw [Int.toNat_natCast] at hmh
                        obtain ⟨M, hM⟩ : ∃ M, M = modelOf (sums N (lm.map ed)) := ⟨_, rfl⟩
                        rw [← hM] at hmh hq9
                        rw [← HLM.out] at hmh
                        obtain ⟨hh1, hh2⟩ := holds_part HZ.out HZB.out (by omega) hmh
                        have HH1 := Lib.hid hh1
                        have HH2 := Lib.hid hh2
                        have HQ9 := Lib.hid hq9
                        obtain ⟨A9, c9, rfl, -⟩ := hq9
                        clear hfe hM hmh hh1 hh2
                        have gii : (ins != ins) = false := by cases ins <;> rfl
                        go_wp2_with (first
                          | (go_at_call 28; first
                              | (have hno := b0; clear hno; refine (holds_any N xs _ M _ _ (HA.out.stays bdAt_stays hbw) HQ9.out).mono ?_; rw [HH1.out]; rintro e w10 ⟨rfl, hb10⟩; have y0 := cell_stays hb10 b0; have y1 := cell_stays hb10 b1; clear b0 b1)
                              | (refine (holds_any N bs _ M _ _ (HB.out.stays bdAt_stays (bel_tr hbw hb10)) (HQ9.out.stays intAt_stays hb10)).mono ?_; rw [HH2.out]; rintro e w11 ⟨rfl, hb11⟩))
                          | (go_at_call 13; refine (awake_any _).mono ?_; rintro e w12 ⟨rfl, hb12⟩))
                        go_ret
                        exact ⟨rfl, bel_tr (bel_tr (bel_tr hbw hb10) hb11) hb12⟩
                      · have gii : (ins != ins) = false := by cases ins <;> rfl
                        obtain ⟨fa, hfa⟩ : ∃ f, feas N (xs.map ed) = f := ⟨_, rfl⟩
                        have HS : Hid ((decide (zoneErr (N : Int) xs = 0) && feas (N : Int).toNat (List.map ed xs)) = fa ∧ decide (zoneErr (N : Int) xs = 0) = true) := Lib.hid (by rw [HZ.out, Int.toNat_natCast, hfa]; simp)
                        have hno : ins = true → fa = false := by
                          intro h
                          cases fa with
                          | false => rfl
                          | true =>
                            have := inside_meet HZ.out HZB.out hfa (HINS.out.trans h)
                            rw [HLM.out, hfe] at this
                            cases this
                        clear hfe hfa
                        cases ins with
                        | false =>
                          clear hno
                          go_wp2_with (first
                            | (go_at_call 26; refine (solvable_any N hn6 xs _ _ (HA.out.stays bdAt_stays hbw)).mono ?_; rw [HS.out.1, HS.out.2]; rintro e w10 ⟨rfl, hb10⟩)
                            | (go_at_call 13; refine (awake_any _).mono ?_; rintro e w12 ⟨rfl, hb12⟩))
                          go_ret
                          exact ⟨rfl, bel_tr (bel_tr hbw hb10) hb12⟩
                        | true =>
                          obtain rfl := hno rfl
                          clear hno
                          go_wp2_with (first
                            | (go_at_call 26; refine (solvable_any N hn6 xs _ _ (HA.out.stays bdAt_stays hbw)).mono ?_; rw [HS.out.1, HS.out.2]; rintro e w10 ⟨rfl, hb10⟩)
                            | (go_at_call 13; refine (awake_any _).mono ?_; rintro e w12 ⟨rfl, hb12⟩))
                          go_ret
                          exact ⟨rfl, bel_tr (bel_tr hbw hb10) hb12⟩
    · have gnn : (na != nb) = true := by simpa using hnn
      clear hnn
      go_enter Try.func11, Try.ntmps11
      go_wp2_with (first
        | (go_at_call 25; refine (good_any [⟨na, A, xs.length, ca, xs⟩, ⟨nb, B, bs.length, cb, bs⟩] _ _ (zns_two _ na A xs.length ca xs nb B bs.length cb bs _ _ (by simp)) (fun z hz => by rcases List.mem_cons.1 hz with h | h; rw [h]; exact HA.out.stays bdAt_stays (bel_al (bel_al (bel_al (bel_one _ _) _) _) _); rw [List.mem_singleton.1 h]; exact HB.out.stays bdAt_stays (bel_al (bel_al (bel_al (bel_one _ _) _) _) _))).mono ?_; rw [HF1.out]; rintro e w1 ⟨rfl, hb1⟩; obtain ⟨hza, hzb, hzc, hrf, hbw, hsz⟩ := three_cells (bel_tr (bel_one _ _) hb1); have a0 : w1.cell? ⟨w.heap.size, 0, none⟩ = some (.int .i64 na) := hza 0; have a1 : w1.cell? ⟨w.heap.size, 1, none⟩ = some (.slice A xs.length ca) := hza 1; have b0 : w1.cell? ⟨w.heap.size + 1, 0, none⟩ = some (.int .i64 nb) := hzb 0; have b1 : w1.cell? ⟨w.heap.size + 1, 1, none⟩ = some (.slice B bs.length cb) := hzb 1; have c0 : w1.cell? ⟨w.heap.size + 1 + 1, 0, none⟩ = some (.int .i64 bd.x) := hzc 0; have c1 : w1.cell? ⟨w.heap.size + 1 + 1, 1, none⟩ = some (.int .i64 bd.y) := hzc 1; have c2 : w1.cell? ⟨w.heap.size + 1 + 1, 2, none⟩ = some (.int .i64 bd.most) := hzc 2; clear hb1 hrf hza hzb hzc)
        | (go_at_call 13; refine (awake_any _).mono ?_; rintro e w9 ⟨rfl, hb9⟩))
      go_ret
      exact ⟨rfl, bel_tr hbw hb9⟩

set_option maxRecDepth 100000 in
theorem refutes_lifted (os : Os) (started : os.Started) (H : Type) (enc : TypeId × Value → H) :
    ReturnsInHanded {} Try.checked os 11 .any (Rows.differenceRefutesSpec.pre6 enc Try.prog Try.f11 Rows.differenceRefutesRow.domain false) (Rows.differenceRefutesSpec.post enc Try.prog Try.f11 false true false false) := by
  refine returnsInHanded_of_change (C := Try.checked) own_none started (by kernel_rfl) Try.func11
    (ChangeSpec.witness6 (enc := enc) (C := Try.checked) false ⟨#[], #[.agg #[.int .i64 0, .slice none 0 0], .agg #[.int .i64 0, .slice none 0 0], .agg #[.int .i64 0, .int .i64 0, .int .i64 0]], []⟩ 8 (by kernel_rfl) (by kernel_rfl) (by kernel_rfl) (by kernel_rfl)) ?_
  intro W base args ds gs before hval0 hW hcnd _
  have hval : ∀ (j : Nat) t v, Try.f11.params[j]? = some t → args[j]? = some v → Value.okWide Try.prog W .any base t v := hval0
  have hW' := hW
  obtain ⟨p, q, hA0, hV, rfl, hfz, hnd⟩ := hW
  have hA : DataW.TrodAll enc Try.prog W 0 (fun _ => true) true Try.f11.params.toList args.toList ds p := hA0
  rw [Try.params11] at hA hval
  obtain ⟨v0, vs0, d0, ds0, p0, q0, hargs, rfl, rfl, h0, r0⟩ := trodAll_cons hA
  obtain ⟨v1, vs1, d1, ds1, p1, q1, rfl, rfl, rfl, h1, r1⟩ := trodAll_cons r0
  obtain ⟨v2, vs2, d2, ds2, p2, q2, rfl, rfl, rfl, h2, r2⟩ := trodAll_cons r1
  obtain ⟨rfl, rfl, rfl⟩ := trodAll_nil r2
  obtain rfl : args = #[v0, v1, v2] := by cases args; simp_all
  obtain ⟨rfl, rfl⟩ := trodVars_none hV
  have k0 := h0
  have lt0 : ∀ x ∈ p0, x.block < W.heap.size := by obtain ⟨m, hm⟩ := k0; exact DataW.trod_lt m _ _ _ hm
  obtain ⟨x0, l0, u0, rfl, w0⟩ := read_zone_by_value h0
  have k1 := h1
  have lt1 : ∀ x ∈ p1, x.block < W.heap.size := by obtain ⟨m, hm⟩ := k1; exact DataW.trod_lt m _ _ _ hm
  obtain ⟨x1, l1, u1, rfl, w1⟩ := read_zone_by_value h1
  have k2 := h2
  have lt2 : ∀ x ∈ p2, x.block < W.heap.size := by obtain ⟨m, hm⟩ := k2; exact DataW.trod_lt m _ _ _ hm
  obtain ⟨b2, rfl⟩ := read_bound_by_value h2
  clear hA0 hval0
  refine (refutes_walk x0 l0 u0 x1 l1 u1 b2 W w0 w1).mono fun e W' ⟨he, bel⟩ => ?_
  subst he
  exact ⟨_, rfl, _, _, _, [], _, [], hW', trodAll_mk1 (shut_bool Try.underlying4 _), (trodAll_cons_mk (Below.trod laid_out (by kernel_rfl) (of_decide_eq_true (by kernel_rfl)) k0 bel lt0) (trodAll_cons_mk (Below.trod laid_out (by kernel_rfl) (of_decide_eq_true (by kernel_rfl)) k1 bel lt1) (trodAll_cons_mk (Below.trod laid_out (by kernel_rfl) (of_decide_eq_true (by kernel_rfl)) k2 bel lt2) trodAll_mk0))), rfl, bel.frame _, fun h => by cases h⟩

theorem refutes_over : Rows.differenceRefutesRow.holds Try.pinned (OpenSpec.ofChange Rows.differenceRefutesSpec) :=
  OpenClaim.holds_of_wide 11 Try.f11 rfl rfl rfl rfl rfl rfl rfl ⟨rfl, rfl, rfl, rfl, rfl⟩ rfl rfl rfl rfl rfl (by kernel_rfl) Try.func11 (by kernel_rfl)
    (of_decide_eq_true (by kernel_rfl)) (by unfold Func.isWrapper; first | (rw [if_pos (by decide +kernel)]; kernel_rfl) | (rw [if_neg (by decide +kernel)]; exact ⟨rfl, rfl⟩))
    (fun os started H enc _ => refutes_lifted os started H enc)

theorem refutes_holds : Rows.DifferenceRefutesSaid := refutes_over
#print axioms refutes_holds
end Go.Proofs.Ytgecbjjcjemcgaa
