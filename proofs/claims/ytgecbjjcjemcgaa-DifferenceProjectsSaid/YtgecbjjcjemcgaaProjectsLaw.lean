/- The law DifferenceProjects: models without an unknown, and models of the projection. -/
import Derived.Test.YtgecbjjcjemcgaaRows
import Derived.Test.YtgecbjjcjemcgaaDopen
import Derived.Test.YtgecbjjcjemcgaaDawake
import Derived.Test.YtgecbjjcjemcgaaDproj3
import Derived.Test.YtgecbjjcjemcgaaDdel
import Derived.Test.YtgecbjjcjemcgaaDecidesZn
import Derived.ProofKit
import Derived.OpenShut
import Derived.ChangeOld
import Derived.Below
namespace Go.Proofs.Ytgecbjjcjemcgaa
open Go.ChangeShapes Go.WideShapes Go.ChangeAt Go.RowKit

theorem src_ints {W : World} {A : Option Addr} {n c : Nat} {M : List Int} (h : IsInts W (.slice A n c) M) : Src W A M.length 1 (M.map (Value.int .i64)) := by
  obtain ⟨A', c', hv, -, -, hat⟩ := h
  injection hv with e1 e2 e3
  subst e1
  refine ⟨by simp, fun u hu => by obtain ⟨x, _, rfl⟩ := List.mem_map.1 hu; rfl, fun hn => ?_⟩
  obtain ⟨b, o, hA, -⟩ := hat 0 _ (gd_at hn)
  refine ⟨b, o, hA, fun j u hj => ?_⟩
  rw [List.getElem?_map] at hj
  cases hx : M[j]? with
  | none => rw [hx] at hj; cases hj
  | some y =>
    rw [hx] at hj
    simp only [Option.map_some, Option.some.injEq] at hj
    subst hj
    obtain ⟨b', o', hA', h0⟩ := hat j y hx
    rw [hA] at hA'
    injection hA' with hA'
    injection hA' with e1 e2
    subst e1 e2
    simpa [IntAt] using h0
theorem keep2p {w W : World} {p1 p2 : Nat × Nat} {v1 v2 : Value} (hb : Below w.heap.size w W) (h : w.cell? ⟨p1.1, p1.2, none⟩ = some v1 ∧ w.cell? ⟨p2.1, p2.2, none⟩ = some v2) :
    W.cell? ⟨p1.1, p1.2, none⟩ = some v1 ∧ W.cell? ⟨p2.1, p2.2, none⟩ = some v2 :=
  ⟨cell_stays hb h.1, cell_stays hb h.2⟩
theorem box_set {W : World} {g : Nat} {a b x y : Value} (hr : ∀ i, W.cell? ⟨g, i, none⟩ = #[a, b][i]?) (i : Nat) : ((W.setCell ⟨g, 0, none⟩ x).setCell ⟨g, 1, none⟩ y).cell? ⟨g, i, none⟩ = #[x, y][i]? := by
  have h0 : W.cell? ⟨g, 0, none⟩ = some a := hr 0
  have h1 : W.cell? ⟨g, 1, none⟩ = some b := hr 1
  match i with
  | 0 =>
    rw [World.cell?_setCell_other _ _ _ _ (by intro h; simp at h), World.cell?_setCell_same _ _ _ h0]
    rfl
  | 1 =>
    rw [World.cell?_setCell_same _ _ _ ((World.cell?_setCell_other _ _ _ _ (by intro h; simp at h)).trans h1)]
    rfl
  | i + 2 =>
    rw [World.cell?_setCell_other _ _ _ _ (by intro h; simp at h), World.cell?_setCell_other _ _ _ _ (by intro h; simp at h), hr]
    rfl

set_option maxRecDepth 100000 in
set_option maxHeartbeats 4000000 in
theorem projects_walk (n : Int) (bs : List Bd) (v : Value) (u : Int) (vs : List Int) (vv : Value) (w : World) (hl : IsBds w v bs) (hv : IsInts w vv vs) :
    Calls Try.prog 7 #[zoneV n v, .int .i64 u, vv] w fun e w' => e = .returned (.bool true) ∧ Below w.heap.size w w' := by
  unfold zoneV
  have HL := Lib.hid hl
  have HV := Lib.hid hv
  obtain ⟨A, c, rfl, -⟩ := hl
  obtain ⟨B, d, rfl, -, -, hbt⟩ := hv
  have HBT := Lib.hid hbt
  clear hbt
  obtain ⟨f1, hf1⟩ : ∃ f1, (!([(⟨n, A, bs.length, c, bs⟩ : Zn)].any badZ)) = f1 := ⟨_, rfl⟩
  have HF1 := Lib.hid hf1
  cases f1 with
  | false =>
    clear hf1
    go_enter Try.func7, Try.ntmps7
    go_wp2_with (first
      | (go_at_call 25; refine (good_any [⟨n, A, bs.length, c, bs⟩] _ _ (zns_one _ n A bs.length c _ bs _ (by simp)) (fun z hz => by rw [List.mem_singleton.1 hz]; exact HL.out.stays bdAt_stays (bel_al (bel_one _ _) _))).mono ?_; rw [HF1.out]; rintro e w1 ⟨rfl, hb1⟩; obtain ⟨hz, -⟩ := new_cells (bel_tr (bel_one _ _) hb1); have hbw := bel_tr (bel_al (bel_one _ _) _) hb1; have z0 : w1.cell? ⟨w.heap.size, 0, none⟩ = some (.int .i64 n) := hz 0; have z1 : w1.cell? ⟨w.heap.size, 1, none⟩ = some (.slice A bs.length c) := hz 1; clear hz hb1)
      | (go_at_call 13; refine (awake_any _).mono ?_; rintro e w9 ⟨rfl, hb9⟩))
    go_ret
    exact ⟨rfl, bel_tr hbw hb9⟩
  | true =>
    have hg : n ≤ 6 ∧ bs.length ≤ 12 ∧ zoneErr n bs = 0 := by
      simp [badZ] at hf1
      omega
    obtain ⟨hn6, hl12, hz0⟩ := hg
    have HZ := Lib.hid hz0
    have hn1 := (good_of hz0).1
    have hwn : IntKind.i64.wrap (n - 1) = n - 1 := IntWalk.i64_in _ (by omega)
    clear hf1 hz0
    by_cases hu0 : u < 1
    · have du0 : decide (u < 1) = true := decide_eq_true hu0
      go_enter Try.func7, Try.ntmps7
      go_wp2_with (first
        | (go_at_call 25; refine (good_any [⟨n, A, bs.length, c, bs⟩] _ _ (zns_one _ n A bs.length c _ bs _ (by simp)) (fun z hz => by rw [List.mem_singleton.1 hz]; exact HL.out.stays bdAt_stays (bel_al (bel_one _ _) _))).mono ?_; rw [HF1.out]; rintro e w1 ⟨rfl, hb1⟩; obtain ⟨hz, -⟩ := new_cells (bel_tr (bel_one _ _) hb1); have hbw := bel_tr (bel_al (bel_one _ _) _) hb1; have z0 : w1.cell? ⟨w.heap.size, 0, none⟩ = some (.int .i64 n) := hz 0; have z1 : w1.cell? ⟨w.heap.size, 1, none⟩ = some (.slice A bs.length c) := hz 1; clear hz hb1)
        | (go_at_call 13; refine (awake_any _).mono ?_; rintro e w9 ⟨rfl, hb9⟩))
      go_ret
      exact ⟨rfl, bel_tr hbw hb9⟩
    · have du0 : decide (u < 1) = false := decide_eq_false hu0
      by_cases hu1 : n ≤ u
      · have du1 : decide (n ≤ u) = true := decide_eq_true hu1
        go_enter Try.func7, Try.ntmps7
        go_wp2_with (first
          | (go_at_call 25; refine (good_any [⟨n, A, bs.length, c, bs⟩] _ _ (zns_one _ n A bs.length c _ bs _ (by simp)) (fun z hz => by rw [List.mem_singleton.1 hz]; exact HL.out.stays bdAt_stays (bel_al (bel_one _ _) _))).mono ?_; rw [HF1.out]; rintro e w1 ⟨rfl, hb1⟩; obtain ⟨hz, -⟩ := new_cells (bel_tr (bel_one _ _) hb1); have hbw := bel_tr (bel_al (bel_one _ _) _) hb1; have z0 : w1.cell? ⟨w.heap.size, 0, none⟩ = some (.int .i64 n) := hz 0; have z1 : w1.cell? ⟨w.heap.size, 1, none⟩ = some (.slice A bs.length c) := hz 1; clear hz hb1)
          | (go_at_call 13; refine (awake_any _).mono ?_; rintro e w9 ⟨rfl, hb9⟩))
        go_ret
        exact ⟨rfl, bel_tr hbw hb9⟩
      · have du1 : decide (n ≤ u) = false := decide_eq_false hu1
        by_cases hln : (vs.length : Int) = n - 1
        · have gln : ((vs.length : Int) != n - 1) = false := by simpa using hln
          have gl0 : ((vs.length : Int) == 0) = false := by rw [beq_eq_false_iff_ne]; omega
          have hl0 : (0 : Int) < (vs.length : Int) := by omega
          have HLN := Lib.hid hln
          obtain ⟨g, o, rfl, v0⟩ := HBT.out 0 _ (gd_at (by omega))
          simp only [Nat.zero_mul, Nat.add_zero] at v0
          obtain ⟨x0, hx0⟩ : ∃ x, gd vs 0 = x := ⟨_, rfl⟩
          rw [hx0] at v0
          replace v0 : w.cell? ⟨g, o, none⟩ = some (.int .i64 x0) := v0
          by_cases h00 : x0 = 0
          · have g00 : (x0 != 0) = false := by simpa using h00
            have H00 : Hid (gd vs 0 = 0) := Lib.hid (hx0.trans h00)
            clear hx0 h00 hln
            obtain ⟨N, rfl⟩ := Int.eq_ofNat_of_zero_le (by omega : 0 ≤ n)
            obtain ⟨U, rfl⟩ := Int.eq_ofNat_of_zero_le (by omega : 0 ≤ u)
            have hU0 : 1 ≤ U := by omega
            have hUN : U < N := by omega
            have hN6 : N ≤ 6 := by omega
            have du1' : decide (N ≤ U) = false := decide_eq_false (by omega)
            have hlv : vs.length = N - 1 := by have := HLN.out; omega
            have HLV := Lib.hid hlv
            clear hlv
            obtain ⟨⟨n1, P, er⟩, hr⟩ : ∃ r, projectR N bs U = r := ⟨_, rfl⟩
            have HR := Lib.hid hr
            have hcc := project_cases HZ.out hN6 hU0 hUN
            rw [hr] at hcc
            clear hr
            go_enter Try.func7, Try.ntmps7
            go_wp2_with (go_at_call 25; refine (good_any [⟨(N : Int), A, bs.length, c, bs⟩] _ _ (zns_one _ (N : Int) A bs.length c _ bs _ (by simp)) (fun z hz => by rw [List.mem_singleton.1 hz]; exact HL.out.stays bdAt_stays (bel_al (bel_one _ _) _))).mono ?_; rw [HF1.out]; rintro e w1 ⟨rfl, hb1⟩; obtain ⟨hz, -⟩ := new_cells (bel_tr (bel_one _ _) hb1); have hbw := bel_tr (bel_al (bel_one _ _) _) hb1; have z0 : w1.cell? ⟨w.heap.size, 0, none⟩ = some (.int .i64 (N : Int)) := hz 0; have z1 : w1.cell? ⟨w.heap.size, 1, none⟩ = some (.slice A bs.length c) := hz 1; clear hz hb1; replace v0 := cell_stays hbw v0)
            refine (project_any N hn6 bs _ U _ (HL.out.stays bdAt_stays hbw)).mono ?_
            rw [HR.out]
            rintro e w2 ⟨v2, rfl, hq2, hb2⟩
            replace z0 := cell_stays hb2 z0
            replace z1 := cell_stays hb2 z1
            replace hbw := bel_tr hbw hb2
            clear hb2 v0
            simp only at hq2
            have HQ2 := Lib.hid hq2
            obtain ⟨A2, c2, rfl, -⟩ := hq2
            have hzl : w.heap.size < w2.heap.size := World.block_lt_of_cell? w2 _ z0
            simp only [zoneV]
            rcases hcc with ⟨hf, h⟩ | ⟨hf, h⟩ | ⟨hf, hbe, h⟩
            · injection h with e1 h
              injection h with e2 e3
              subst e1 e2 e3
              clear hf
              go_wp2_with (go_at_call 13; refine (awake_any _).mono ?_; rintro e w9 ⟨rfl, hb9⟩)
              go_ret
              exact ⟨rfl, bel_tr (bel_al hbw _) hb9⟩
            · injection h with e1 h
              injection h with e2 e3
              subst e1 e2 e3
              clear hf
              go_wp2_with (go_at_call 13; refine (awake_any _).mono ?_; rintro e w9 ⟨rfl, hb9⟩)
              go_ret
              exact ⟨rfl, bel_tr (bel_al hbw _) hb9⟩
            · injection h with e1 h
              injection h with e2 e3
              subst e3
              have HF := Lib.hid hf
              have HBE := Lib.hid hbe
              have HP := Lib.hid e2
              have HN1 := Lib.hid e1
              clear hf hbe e2 e1
              go_wp2_with fail
              refine wp_gen ?_
              intro W3 hW3
              have hb3 : Below w2.heap.size w2 W3 := by rw [hW3]; exact bel_al (bel_one _ _) _
              have hp3 : ∀ i, W3.cell? ⟨w2.heap.size, i, none⟩ = #[Value.int .i64 n1, .slice A2 P.length c2][i]? := by rw [hW3]; exact (two_cells (Below.refl _ _)).1
              have hw3 : ∀ i, W3.cell? ⟨w2.heap.size + 1, i, none⟩ = #[Value.int .i64 (N : Int), .slice A bs.length c][i]? := by rw [hW3]; exact (two_cells (Below.refl _ _)).2.1
              have hf3 : ∀ i, W3.frozen? ⟨w2.heap.size + 1, i, none⟩ = false := by rw [hW3]; exact (two_cells (Below.refl _ _)).2.2.1
              have hs3 : w2.heap.size + 1 < W3.heap.size := by rw [hW3]; simp
              have H3 := Lib.hid (And.intro hp3 (And.intro hw3 (And.intro hf3 (And.intro hb3 hs3))))
              have hvl6 : vs.length ≤ 6 := by have := HLV.out; omega
              clear hW3 hp3 hw3 hf3 hb3 gln gl0 g00
              go_loopw [77] (fun i wr => ∃ (k : Nat) (Aw : Option Addr) (cw : Nat), k ≤ vs.length ∧ i = .int .i64 k ∧ Hid ((∀ i, wr.cell? ⟨w2.heap.size, i, none⟩ = #[Value.int .i64 n1, .slice A2 P.length c2][i]?) ∧ (∀ i, wr.cell? ⟨w2.heap.size + 1, i, none⟩ = #[Value.int .i64 (N : Int), .slice Aw (wholeL bs U vs k).length cw][i]?) ∧ IsBds wr (.slice Aw (wholeL bs U vs k).length cw) (wholeL bs U vs k) ∧ (∀ i, wr.frozen? ⟨w2.heap.size + 1, i, none⟩ = false) ∧ Below w2.heap.size w2 wr ∧ w2.heap.size + 1 < wr.heap.size ∧ (∀ j, j < k → -1000 ≤ gd vs j ∧ gd vs j ≤ 1000))) (fun i _ => vs.length - (intOf i).toNat)
              case atStart => exact ⟨0, A, c, Nat.zero_le _, rfl, H3.out.1, H3.out.2.1, HL.out.stays bdAt_stays (bel_tr hbw H3.out.2.2.2.1), H3.out.2.2.1, H3.out.2.2.2.1, H3.out.2.2.2.2, fun j hj => absurd hj (by omega)⟩
              case round =>
                obtain ⟨k, Aw, cw, hk, rfl, HI⟩ := hrel
                by_cases hlt : k < vs.length
                · have hk' : (k : Int) < (vs.length : Int) := by omega
                  obtain ⟨g', o', hA, v1⟩ := HBT.out k _ (gd_at hlt)
                  injection hA with hA
                  injection hA with e1 e2
                  subst e1 e2
                  simp only [Nat.mul_one] at v1
                  obtain ⟨x, hx⟩ : ∃ x, gd vs k = x := ⟨_, rfl⟩
                  rw [hx] at v1
                  replace v1 : wr.cell? ⟨g, o + k, none⟩ = some (.int .i64 x) := cell_stays (bel_tr hbw HI.out.2.2.2.2.1) v1
                  by_cases hx0 : x < -1000
                  · have hbr := bel_tr hbw HI.out.2.2.2.2.1
                    go_wp2_with (go_at_call 13; refine (awake_any _).mono ?_; rintro e w9 ⟨rfl, hb9⟩)
                    go_ret
                    exact ⟨rfl, bel_tr hbr hb9⟩
                  · by_cases hx1 : 1000 < x
                    · have hbr := bel_tr hbw HI.out.2.2.2.2.1
                      go_wp2_with (go_at_call 13; refine (awake_any _).mono ?_; rintro e w9 ⟨rfl, hb9⟩)
                      go_ret
                      exact ⟨rfl, bel_tr hbr hb9⟩
                    · by_cases hge : U ≤ k
                      · have hge' : (U : Int) ≤ (k : Int) := by omega
                        have hwp : IntKind.i64.wrap ((k : Int) + 1) = ((k + 1 : Nat) : Int) := by rw [IntWalk.i64_in _ (by omega)]; omega
                        have hpl : plc U k = k + 1 := by unfold plc; rw [if_pos hge]
                        obtain ⟨nk, hnk⟩ : ∃ a, a = -x := ⟨_, rfl⟩
                        obtain ⟨l7, e7⟩ : ∃ l, wholeL bs U vs k ++ [⟨((k + 1 : Nat) : Int), 0, x⟩] = l := ⟨_, rfl⟩
                        have HW8 : Hid (wholeL bs U vs (k + 1) = l7 ++ [⟨0, ((k + 1 : Nat) : Int), nk⟩]) := Lib.hid (by simp only [wholeL]; rw [hpl, hx, ← e7, hnk])
                        have hwk : IntKind.i64.wrap (-x) = nk := by rw [hnk]; exact IntWalk.i64_in _ (by omega)
                        have H7 := Lib.hid e7
                        have hll7 : l7.length ≤ 100 := by rw [← e7, List.length_append, wholeL_len]; simp; omega
                        obtain ⟨lk, hlk⟩ : ∃ l, l = wholeL bs U vs k := ⟨_, rfl⟩
                        have hlkl : lk.length ≤ 90 := by rw [hlk, wholeL_len]; omega
                        rw [← hlk] at HI H7
                        have q0 : wr.cell? ⟨w2.heap.size + 1, 0, none⟩ = some (.int .i64 (N : Int)) := HI.out.2.1 0
                        have q1 : wr.cell? ⟨w2.heap.size + 1, 1, none⟩ = some (.slice Aw lk.length cw) := HI.out.2.1 1
                        clear e7 hnk hpl hlk
                        go_wp2_with fail
                        refine (with_any N lk _ ((k + 1 : Nat) : Int) 0 x _ HI.out.2.2.1 (by omega)).mono ?_
                        rw [H7.out]
                        rintro e w7 ⟨v7, rfl, hq7, hb7⟩
                        have HQ7 := Lib.hid hq7
                        obtain ⟨A7, c7, rfl, -⟩ := hq7
                        simp only [zoneV]
                        go_wp2_with fail
                        refine (with_any N l7 _ 0 ((k + 1 : Nat) : Int) nk _ HQ7.out (by omega)).mono ?_
                        rw [← HW8.out]
                        rintro e w8 ⟨v8, rfl, hq8, hb8⟩
                        obtain ⟨l8, hl8⟩ : ∃ l, l = wholeL bs U vs (k + 1) := ⟨_, rfl⟩
                        rw [← hl8] at hq8
                        have HL8 := Lib.hid hl8
                        have HQ8 := Lib.hid hq8
                        obtain ⟨A8, c8, rfl, -⟩ := hq8
                        have hb78 := bel_tr hb7 hb8
                        obtain ⟨hr8, hrf8, hsz8⟩ := arr_keep2 HI.out.2.1 HI.out.2.2.2.1 HI.out.2.2.2.2.2.1 hb78
                        have hp8 := arr_keep HI.out.1 (by have := HI.out.2.2.2.2.2.1; omega) hb78
                        have HB8 := Lib.hid (bel_tr HI.out.2.2.2.2.1 hb78)
                        have H57 := Lib.hid HI.out.2.2.2.2.2.2
                        clear hb7 hb8 hb78 hl8 q0 q1
                        simp only [zoneV]
                        go_wp2_with fail
                        go_roundw
                        case rel =>
                          have hne : w2.heap.size + 1 ≠ w2.heap.size := by omega
                          refine ⟨k + 1, A8, c8, by omega, by go_num, Lib.hid ⟨fun i => ?_, fun i => ?_, ?_, fun i => ?_, ?_, ?_, ?_⟩⟩
                          · rw [cell_far hne, cell_far hne]; exact hp8 i
                          · rw [← HL8.out]; exact box_set hr8 i
                          · rw [← HL8.out]; exact isBds_set HQ8.out hr8 (by simp) _ _ _ _
                          · simp [hrf8]
                          · exact bel_set (bel_set HB8.out (by omega) _) (by omega) _
                          · simp; omega
                          · intro j hj
                            rcases Nat.lt_or_eq_of_le (Nat.le_of_lt_succ hj) with h | h
                            · exact H57.out j h
                            · rw [h, hx]; omega
                        case measure => simp [intOf]; omega
                      · have hge' : ¬ (U : Int) ≤ (k : Int) := by omega
                        have hpl : plc U k = k := by unfold plc; rw [if_neg hge]
                        obtain ⟨nk, hnk⟩ : ∃ a, a = -x := ⟨_, rfl⟩
                        obtain ⟨l7, e7⟩ : ∃ l, wholeL bs U vs k ++ [⟨((k : Nat) : Int), 0, x⟩] = l := ⟨_, rfl⟩
                        have HW8 : Hid (wholeL bs U vs (k + 1) = l7 ++ [⟨0, ((k : Nat) : Int), nk⟩]) := Lib.hid (by simp only [wholeL]; rw [hpl, hx, ← e7, hnk])
                        have hwk : IntKind.i64.wrap (-x) = nk := by rw [hnk]; exact IntWalk.i64_in _ (by omega)
                        have H7 := Lib.hid e7
                        have hll7 : l7.length ≤ 100 := by rw [← e7, List.length_append, wholeL_len]; simp; omega
                        obtain ⟨lk, hlk⟩ : ∃ l, l = wholeL bs U vs k := ⟨_, rfl⟩
                        have hlkl : lk.length ≤ 90 := by rw [hlk, wholeL_len]; omega
                        rw [← hlk] at HI H7
                        have q0 : wr.cell? ⟨w2.heap.size + 1, 0, none⟩ = some (.int .i64 (N : Int)) := HI.out.2.1 0
                        have q1 : wr.cell? ⟨w2.heap.size + 1, 1, none⟩ = some (.slice Aw lk.length cw) := HI.out.2.1 1
                        clear e7 hnk hpl hlk
                        go_wp2_with fail
                        refine (with_any N lk _ ((k : Nat) : Int) 0 x _ HI.out.2.2.1 (by omega)).mono ?_
                        rw [H7.out]
                        rintro e w7 ⟨v7, rfl, hq7, hb7⟩
                        have HQ7 := Lib.hid hq7
                        obtain ⟨A7, c7, rfl, -⟩ := hq7
                        simp only [zoneV]
                        go_wp2_with fail
                        refine (with_any N l7 _ 0 ((k : Nat) : Int) nk _ HQ7.out (by omega)).mono ?_
                        rw [← HW8.out]
                        rintro e w8 ⟨v8, rfl, hq8, hb8⟩
                        obtain ⟨l8, hl8⟩ : ∃ l, l = wholeL bs U vs (k + 1) := ⟨_, rfl⟩
                        rw [← hl8] at hq8
                        have HL8 := Lib.hid hl8
                        have HQ8 := Lib.hid hq8
                        obtain ⟨A8, c8, rfl, -⟩ := hq8
                        have hb78 := bel_tr hb7 hb8
                        obtain ⟨hr8, hrf8, hsz8⟩ := arr_keep2 HI.out.2.1 HI.out.2.2.2.1 HI.out.2.2.2.2.2.1 hb78
                        have hp8 := arr_keep HI.out.1 (by have := HI.out.2.2.2.2.2.1; omega) hb78
                        have HB8 := Lib.hid (bel_tr HI.out.2.2.2.2.1 hb78)
                        have H57 := Lib.hid HI.out.2.2.2.2.2.2
                        clear hb7 hb8 hb78 hl8 q0 q1
                        simp only [zoneV]
                        go_wp2_with fail
                        go_roundw
                        case rel =>
                          have hne : w2.heap.size + 1 ≠ w2.heap.size := by omega
                          refine ⟨k + 1, A8, c8, by omega, by go_num, Lib.hid ⟨fun i => ?_, fun i => ?_, ?_, fun i => ?_, ?_, ?_, ?_⟩⟩
                          · rw [cell_far hne, cell_far hne]; exact hp8 i
                          · rw [← HL8.out]; exact box_set hr8 i
                          · rw [← HL8.out]; exact isBds_set HQ8.out hr8 (by simp) _ _ _ _
                          · simp [hrf8]
                          · exact bel_set (bel_set HB8.out (by omega) _) (by omega) _
                          · simp; omega
                          · intro j hj
                            rcases Nat.lt_or_eq_of_le (Nat.le_of_lt_succ hj) with h | h
                            · exact H57.out j h
                            · rw [h, hx]; omega
                        case measure => simp [intOf]; omega
                · obtain rfl : k = vs.length := by omega
                  have hall : ∀ i, -1000 ≤ gd vs i ∧ gd vs i ≤ 1000 := by
                    intro i
                    by_cases hi : i < vs.length
                    · exact HI.out.2.2.2.2.2.2 i hi
                    · rw [gd_over (by omega)]; omega
                  have hfar : vs.any farI = false := by
                    rw [List.any_eq_false]
                    intro x hx
                    obtain ⟨j, hj⟩ := List.mem_iff_getElem?.1 hx
                    have h1 := hall j
                    rw [gd_get hj] at h1
                    unfold farI
                    simp only [Bool.or_eq_true, decide_eq_true_eq, not_or]
                    omega
                  obtain ⟨sb, hsb⟩ : ∃ b, satB P vs = b := ⟨_, rfl⟩
                  have HH1 : Hid (holdsR n1 P vs = (sb, 0)) := Lib.hid (by rw [HN1.out, ← hsb, HP.out]; exact proj_holds hN6 hU0 hUN HBE.out HLV.out H00.out hfar)
                  have hzw := wholeL_zone (vs := vs) HZ.out hUN hl12 hN6 hall vs.length (by rw [HLV.out]; exact Nat.le_refl _)
                  have hfw := whole_feas HZ.out hU0 hUN hl12 hN6 hall HLV.out H00.out HF.out
                  rw [← HP.out, hsb, ← HLV.out] at hfw
                  have HRH := Lib.hid (rest_holds HZ.out hN6 hl12 hU0 hUN HBE.out HF.out)
                  obtain ⟨lk, hlk⟩ : ∃ l, l = wholeL bs U vs vs.length := ⟨_, rfl⟩
                  rw [← hlk] at HI hzw hfw
                  have HS : Hid ((decide (zoneErr (N : Int) lk = 0) && feas (N : Int).toNat (List.map ed lk)) = sb ∧ decide (zoneErr (N : Int) lk = 0) = true) := Lib.hid (by rw [hzw, Int.toNat_natCast, hfw]; simp)
                  have HQW := Lib.hid HI.out.2.2.1
                  have p0 : wr.cell? ⟨w2.heap.size, 0, none⟩ = some (.int .i64 n1) := HI.out.1 0
                  have p1 : wr.cell? ⟨w2.heap.size, 1, none⟩ = some (.slice A2 P.length c2) := HI.out.1 1
                  have q0 : wr.cell? ⟨w2.heap.size + 1, 0, none⟩ = some (.int .i64 (N : Int)) := HI.out.2.1 0
                  have q1 : wr.cell? ⟨w2.heap.size + 1, 1, none⟩ = some (.slice Aw lk.length cw) := HI.out.2.1 1
                  have hb2r := HI.out.2.2.2.2.1
                  have y0 := cell_stays hb2r z0
                  have y1 := cell_stays hb2r z1
                  have hbr := bel_tr hbw hb2r
                  have HQP := Lib.hid (HQ2.out.stays bdAt_stays hb2r)
                  clear hall hfar hsb hzw hfw hlk HI hlt hk z0 z1
                  have gss : (sb != sb) = false := by cases sb <;> rfl
                  go_wp2_with (first
                    | (go_at_call 28; refine (holds_any n1 P _ vs _ _ HQP.out (HV.out.stays intAt_stays hbr)).mono ?_; rw [HH1.out]; rintro e w4 ⟨rfl, hb4⟩; replace p0 := cell_stays hb4 p0; replace p1 := cell_stays hb4 p1; replace q0 := cell_stays hb4 q0; replace q1 := cell_stays hb4 q1; replace y0 := cell_stays hb4 y0; replace y1 := cell_stays hb4 y1; replace hbr := bel_tr hbr hb4; replace HQP := Lib.hid (HQP.out.stays bdAt_stays hb4); replace HQW := Lib.hid (HQW.out.stays bdAt_stays hb4); clear hb4)
                    | (go_at_call 26; refine (solvable_any N hn6 lk _ _ HQW.out).mono ?_; rw [HS.out.1, HS.out.2]; rintro e w5 ⟨rfl, hb5⟩; replace p0 := cell_stays hb5 p0; replace p1 := cell_stays hb5 p1; replace y0 := cell_stays hb5 y0; replace y1 := cell_stays hb5 y1; replace hbr := bel_tr hbr hb5; replace HQP := Lib.hid (HQP.out.stays bdAt_stays hb5); clear hb5 q0 q1))
                  refine (zsolve_any N hn6 bs _ _ (HL.out.stays bdAt_stays hbr)).mono ?_
                  rintro e w6 ⟨hb6, h6⟩
                  replace p0 := cell_stays hb6 p0
                  replace p1 := cell_stays hb6 p1
                  replace y0 := cell_stays hb6 y0
                  replace hbr := bel_tr hbr hb6
                  replace HQP := Lib.hid (HQP.out.stays bdAt_stays hb6)
                  clear hb6 y1
                  rw [Int.toNat_natCast] at h6
                  rcases h6 with ⟨h6, rfl⟩ | ⟨-, hfe, v6, rfl, hq6⟩ | ⟨-, hfe, L, A6, c6, rfl, -, -, -⟩
                  · exact absurd HZ.out h6
                  · have hml : (modelOf (sums N (bs.map ed))).length = N := by rw [modelOf_length, sums_len]
                    obtain ⟨M, hM⟩ : ∃ M, M = modelOf (sums N (bs.map ed)) := ⟨_, rfl⟩
                    rw [← hM] at hml hq6 HRH
                    rw [← HP.out, ← HN1.out] at HRH
                    have HQ6 := Lib.hid hq6
                    obtain ⟨A6, c6, rfl, -⟩ := hq6
                    have HSRC := Lib.hid (src_ints HQ6.out)
                    have gMN : ((M.length : Int) != (N : Int)) = false := by rw [hml]; simp
                    obtain ⟨mm, hmm⟩ : ∃ m, M.length = U + m + 1 := ⟨N - U - 1, by omega⟩
                    have HMM := Lib.hid hmm
                    have hw1 : IntKind.i64.wrap ((U : Int) + 1) = (U : Int) + 1 := IntWalk.i64_in _ (by omega)
                    have hM64 : M.length ≤ 64 := by omega
                    clear hfe hM hml hmm
                    go_wp2_with fail
                    go_region_held3 (fun W => W.cell? ⟨w2.heap.size, 0, none⟩ = some (.int .i64 n1) ∧ W.cell? ⟨w2.heap.size, 1, none⟩ = some (.slice A2 P.length c2)) (with_reducible exact keep2p (p1 := (w2.heap.size, 0)) (p2 := (w2.heap.size, 1)) (by repeat (first | with_reducible exact Below.refl _ _ | assumption | with_reducible refine Below.drew ?_ | with_reducible refine bel_al ?_ _ | with_reducible refine bel_tr ?_ (by assumption))) ⟨p0, p1⟩) (first
                      | (go_at_call 30; refine (cloneInts A6 M.length c6 _ _ (HSRC.out.stays (Below.refl _ _).drew) (by omega)).mono ?_; rintro e w7 ⟨v7, rfl, hown7, hb7'⟩; have hb7 : Below w6.heap.size w6 w7 := bel_tr (Below.refl _ _).drew hb7'; clear hb7'; obtain ⟨g7, cap7, spare7, hv7, hg7, hh7, hc7, hm7⟩ := own_form hown7 (by rw [HMM.out]; omega); rw [HMM.out] at hv7 hc7; subst hv7; clear hown7)
                      | (go_at_call 29; refine (delete_any M U mm HMM.out g7 cap7 spare7 _ hh7 hc7 hm7).mono ?_; rintro e w8 ⟨v8, rfl, hq8, hb8'⟩; have hb8 : Below w6.heap.size w6 w8 := hb7.trans (hb8'.mono hg7); have HQ8 := Lib.hid hq8; obtain ⟨A8, c8, rfl, -⟩ := hq8; clear hb8')
                      | (go_at_call 28; refine (holds_any n1 P _ (M.eraseIdx U) _ _ (HQP.out.stays bdAt_stays hb8) HQ8.out).mono ?_; rw [HRH.out]; rintro e w10 ⟨rfl, hb10⟩))
                    all_goals
                      go_wp2_with (go_at_call 13; refine (awake_any _).mono ?_; rintro e w9 ⟨rfl, hb9⟩)
                      go_ret
                      exact ⟨rfl, bel_tr (bel_tr (bel_tr hbr hb8) hb10) hb9⟩
                  · rw [HF.out] at hfe; cases hfe
          · have g00 : (x0 != 0) = true := by simpa using h00
            clear hx0 h00 hln
            go_enter Try.func7, Try.ntmps7
            go_wp2_with (first
              | (go_at_call 25; refine (good_any [⟨n, A, bs.length, c, bs⟩] _ _ (zns_one _ n A bs.length c _ bs _ (by simp)) (fun z hz => by rw [List.mem_singleton.1 hz]; exact HL.out.stays bdAt_stays (bel_al (bel_one _ _) _))).mono ?_; rw [HF1.out]; rintro e w1 ⟨rfl, hb1⟩; obtain ⟨hz, -⟩ := new_cells (bel_tr (bel_one _ _) hb1); have hbw := bel_tr (bel_al (bel_one _ _) _) hb1; have z0 : w1.cell? ⟨w.heap.size, 0, none⟩ = some (.int .i64 n) := hz 0; have z1 : w1.cell? ⟨w.heap.size, 1, none⟩ = some (.slice A bs.length c) := hz 1; clear hz hb1; replace v0 := cell_stays hbw v0)
              | (go_at_call 13; refine (awake_any _).mono ?_; rintro e w9 ⟨rfl, hb9⟩))
            go_ret
            exact ⟨rfl, bel_tr hbw hb9⟩
        · have gln : ((vs.length : Int) != n - 1) = true := by simpa using hln
          go_enter Try.func7, Try.ntmps7
          go_wp2_with (first
            | (go_at_call 25; refine (good_any [⟨n, A, bs.length, c, bs⟩] _ _ (zns_one _ n A bs.length c _ bs _ (by simp)) (fun z hz => by rw [List.mem_singleton.1 hz]; exact HL.out.stays bdAt_stays (bel_al (bel_one _ _) _))).mono ?_; rw [HF1.out]; rintro e w1 ⟨rfl, hb1⟩; obtain ⟨hz, -⟩ := new_cells (bel_tr (bel_one _ _) hb1); have hbw := bel_tr (bel_al (bel_one _ _) _) hb1; have z0 : w1.cell? ⟨w.heap.size, 0, none⟩ = some (.int .i64 n) := hz 0; have z1 : w1.cell? ⟨w.heap.size, 1, none⟩ = some (.slice A bs.length c) := hz 1; clear hz hb1)
            | (go_at_call 13; refine (awake_any _).mono ?_; rintro e w9 ⟨rfl, hb9⟩))
          go_ret
          exact ⟨rfl, bel_tr hbw hb9⟩

set_option maxRecDepth 100000 in
theorem projects_lifted (os : Os) (started : os.Started) (H : Type) (enc : TypeId × Value → H) :
    ReturnsInHanded {} Try.checked os 7 .any (Rows.differenceProjectsSpec.pre6 enc Try.prog Try.f7 Rows.differenceProjectsRow.domain false) (Rows.differenceProjectsSpec.post enc Try.prog Try.f7 false true false false) := by
  refine returnsInHanded_of_change (C := Try.checked) own_none started (by kernel_rfl) Try.func7
    (ChangeSpec.witness6 (enc := enc) (C := Try.checked) false ⟨#[], #[.agg #[.int .i64 0, .slice none 0 0], .int .i64 0, .slice none 0 0], []⟩ 8 (by kernel_rfl) (by kernel_rfl) (by kernel_rfl) (by kernel_rfl)) ?_
  intro W base args ds gs before hval0 hW hcnd _
  have hval : ∀ (j : Nat) t v, Try.f7.params[j]? = some t → args[j]? = some v → Value.okWide Try.prog W .any base t v := hval0
  have hW' := hW
  obtain ⟨p, q, hA0, hV, rfl, hfz, hnd⟩ := hW
  have hA : DataW.TrodAll enc Try.prog W 0 (fun _ => true) true Try.f7.params.toList args.toList ds p := hA0
  rw [Try.params7] at hA hval
  obtain ⟨v0, vs0, d0, ds0, p0, q0, hargs, rfl, rfl, h0, r0⟩ := trodAll_cons hA
  obtain ⟨v1, vs1, d1, ds1, p1, q1, rfl, rfl, rfl, h1, r1⟩ := trodAll_cons r0
  obtain ⟨v2, vs2, d2, ds2, p2, q2, rfl, rfl, rfl, h2, r2⟩ := trodAll_cons r1
  obtain ⟨rfl, rfl, rfl⟩ := trodAll_nil r2
  obtain rfl : args = #[v0, v1, v2] := by cases args; simp_all
  obtain ⟨rfl, rfl⟩ := trodVars_none hV
  have k0 := h0
  have lt0 : ∀ x ∈ p0, x.block < W.heap.size := by obtain ⟨m, hm⟩ := k0; exact DataW.trod_lt m _ _ _ hm
  obtain ⟨x0, l0, u0, rfl, w0⟩ := read_zone_by_value h0
  have k1 := h1
  have lt1 : ∀ x ∈ p1, x.block < W.heap.size := by obtain ⟨m, hm⟩ := k1; exact DataW.trod_lt m _ _ _ hm
  obtain ⟨a1, e1⟩ : ∃ a, v1 = .int .i64 a := by obtain ⟨a, e, _⟩ := open_int Try.underlying3 (hval 1 3 v1 rfl rfl) h1; exact ⟨a, e⟩
  subst e1
  have k2 := h2
  have lt2 : ∀ x ∈ p2, x.block < W.heap.size := by obtain ⟨m, hm⟩ := k2; exact DataW.trod_lt m _ _ _ hm
  obtain ⟨s2, len2, cap2, rfl⟩ := okWide_slice Try.underlying27 (hval 2 27 v2 rfl rfl)
  obtain ⟨l2, w2⟩ : ∃ l, IsInts W (.slice s2 len2 cap2) l := by obtain ⟨fuel, hf⟩ := h2; exact read_ints (v := .slice s2 len2 cap2) hf
  clear hA0 hval0
  refine (projects_walk x0 l0 u0 a1 l2 _ W w0 w2).mono fun e W' ⟨he, bel⟩ => ?_
  subst he
  exact ⟨_, rfl, _, _, _, [], _, [], hW', trodAll_mk1 (shut_bool Try.underlying4 _), (trodAll_cons_mk (Below.trod laid_out (by kernel_rfl) (of_decide_eq_true (by kernel_rfl)) k0 bel lt0) (trodAll_cons_mk (Below.trod laid_out (by kernel_rfl) (of_decide_eq_true (by kernel_rfl)) k1 bel lt1) (trodAll_cons_mk (Below.trod laid_out (by kernel_rfl) (of_decide_eq_true (by kernel_rfl)) k2 bel lt2) trodAll_mk0))), rfl, bel.frame _, fun h => by cases h⟩

theorem projects_over : Rows.differenceProjectsRow.holds Try.pinned (OpenSpec.ofChange Rows.differenceProjectsSpec) :=
  OpenClaim.holds_of_wide 7 Try.f7 rfl rfl rfl rfl rfl rfl rfl ⟨rfl, rfl, rfl, rfl, rfl⟩ rfl rfl rfl rfl rfl (by kernel_rfl) Try.func7 (by kernel_rfl)
    (of_decide_eq_true (by kernel_rfl)) (by unfold Func.isWrapper; first | (rw [if_pos (by decide +kernel)]; kernel_rfl) | (rw [if_neg (by decide +kernel)]; exact ⟨rfl, rfl⟩))
    (fun os started H enc _ => projects_lifted os started H enc)

theorem projects_holds : Rows.DifferenceProjectsSaid := projects_over
#print axioms projects_holds
end Go.Proofs.Ytgecbjjcjemcgaa
