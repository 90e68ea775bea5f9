/- The law DifferenceTight: closing keeps the models; each tightest bound is attained, and exceeded by none. -/
import Derived.Test.YtgecbjjcjemcgaaRows
import Derived.Test.YtgecbjjcjemcgaaDopen
import Derived.Test.YtgecbjjcjemcgaaDawake
import Derived.Test.YtgecbjjcjemcgaaDclosure
import Derived.Test.YtgecbjjcjemcgaaDecidesZn
import Derived.ProofKit
import Derived.OpenShut
import Derived.ChangeOld
import Derived.Below
namespace Go.Proofs.Ytgecbjjcjemcgaa
open Go.ChangeShapes Go.WideShapes Go.ChangeAt Go.RowKit

theorem att_feas {n : Nat} {bs : List Bd} (hz : zoneErr n bs = 0) (hf : feas n (bs.map ed) = true) {x y : Nat} (hx : x < n) (hy : y < n) {m : Int} (ht : tight n (bs.map ed) x y = some m) (c : Int) :
    feas n ((bs ++ [(⟨y, x, -c⟩ : Bd)]).map ed) = decide (c ≤ m) := by
  obtain ⟨-, -, -, hg⟩ := good_of hz
  rw [Int.toNat_natCast] at hg
  have h := feas_add (good_ok hg) hf hx hy c
  rw [List.map_append]
  have e1 : List.map ed [(⟨(y : Int), (x : Int), -c⟩ : Bd)] = [⟨y, x, -c⟩] := by simp [ed]
  rw [e1]
  by_cases hd : c ≤ m
  · rw [decide_eq_true hd]; exact h.2 (fun d hd' => by rw [ht] at hd'; injection hd' with hd'; omega)
  · rw [decide_eq_false hd, ← Bool.not_eq_true]; exact fun h' => hd (h.1 h' m ht)

set_option maxRecDepth 100000 in
set_option maxHeartbeats 4000000 in
theorem tights_walk (n : Int) (bs : List Bd) (v : Value) (vs : List Int) (vv : Value) (w : World) (hl : IsBds w v bs) (hv : IsInts w vv vs) :
    Calls Try.prog 6 #[zoneV n v, vv] w fun e w' => e = .returned (.bool true) ∧ Below w.heap.size w w' := by
  unfold zoneV
  have HL := Lib.hid hl
  have HV := Lib.hid hv
  obtain ⟨A, c, rfl, -⟩ := hl
  obtain ⟨B, d, rfl, -⟩ := hv
  obtain ⟨f1, hf1⟩ : ∃ f1, (!([(⟨n, A, bs.length, c, bs⟩ : Zn)].any badZ)) = f1 := ⟨_, rfl⟩
  have HF1 := Lib.hid hf1
  cases f1 with
  | false =>
    clear hf1
    go_enter Try.func6, Try.ntmps6
    go_wp2_with (first
      | (go_at_call 25; refine (good_any [⟨n, A, bs.length, c, bs⟩] _ _ (zns_one _ n A bs.length c _ bs _ (by simp)) (fun z hz => by rw [List.mem_singleton.1 hz]; exact HL.out.stays bdAt_stays (bel_al (bel_one _ _) _))).mono ?_; rw [HF1.out]; rintro e w1 ⟨rfl, hb1⟩; obtain ⟨hz, -⟩ := new_cells (bel_tr (bel_one _ _) hb1); have hbw := bel_tr (bel_al (bel_one _ _) _) hb1; have z0 : w1.cell? ⟨w.heap.size, 0, none⟩ = some (.int .i64 n) := hz 0; have z1 : w1.cell? ⟨w.heap.size, 1, none⟩ = some (.slice A bs.length c) := hz 1; clear hz hb1)
      | (go_at_call 13; refine (awake_any _).mono ?_; rintro e w2 ⟨rfl, hb2⟩))
    go_ret
    exact ⟨rfl, bel_tr hbw hb2⟩
  | true =>
    have hg : n ≤ 6 ∧ bs.length ≤ 12 ∧ zoneErr n bs = 0 := by
      simp [badZ] at hf1
      omega
    obtain ⟨hn6, hl12, hz0⟩ := hg
    have HZ := Lib.hid hz0
    have hn1 := (good_of hz0).1
    clear hf1 hz0
    by_cases hn4 : 4 < n
    · go_enter Try.func6, Try.ntmps6
      go_wp2_with (first
        | (go_at_call 25; refine (good_any [⟨n, A, bs.length, c, bs⟩] _ _ (zns_one _ n A bs.length c _ bs _ (by simp)) (fun z hz => by rw [List.mem_singleton.1 hz]; exact HL.out.stays bdAt_stays (bel_al (bel_one _ _) _))).mono ?_; rw [HF1.out]; rintro e w1 ⟨rfl, hb1⟩; obtain ⟨hz, -⟩ := new_cells (bel_tr (bel_one _ _) hb1); have hbw := bel_tr (bel_al (bel_one _ _) _) hb1; have z0 : w1.cell? ⟨w.heap.size, 0, none⟩ = some (.int .i64 n) := hz 0; have z1 : w1.cell? ⟨w.heap.size, 1, none⟩ = some (.slice A bs.length c) := hz 1; clear hz hb1)
        | (go_at_call 13; refine (awake_any _).mono ?_; rintro e w2 ⟨rfl, hb2⟩))
      go_ret
      exact ⟨rfl, bel_tr hbw hb2⟩
    · obtain ⟨N, rfl⟩ := Int.eq_ofNat_of_zero_le (by omega : 0 ≤ n)
      obtain ⟨⟨n1, E, er⟩, hr⟩ : ∃ r, closeR N bs = r := ⟨_, rfl⟩
      have HR := Lib.hid hr
      have hcc := close_cases HZ.out (by omega)
      rw [hr] at hcc
      clear hr
      go_enter Try.func6, Try.ntmps6
      go_wp2_with (go_at_call 25; refine (good_any [⟨N, A, bs.length, c, bs⟩] _ _ (zns_one _ N A bs.length c _ bs _ (by simp)) (fun z hz => by rw [List.mem_singleton.1 hz]; exact HL.out.stays bdAt_stays (bel_al (bel_one _ _) _))).mono ?_; rw [HF1.out]; rintro e w1 ⟨rfl, hb1⟩; obtain ⟨hz, -⟩ := new_cells (bel_tr (bel_one _ _) hb1); have hbw := bel_tr (bel_al (bel_one _ _) _) hb1; have z0 : w1.cell? ⟨w.heap.size, 0, none⟩ = some (.int .i64 (N : Int)) := hz 0; have z1 : w1.cell? ⟨w.heap.size, 1, none⟩ = some (.slice A bs.length c) := hz 1; clear hz hb1)
      refine (close_any N hn6 bs _ _ (HL.out.stays bdAt_stays hbw)).mono ?_
      rw [HR.out]
      rintro e w2 ⟨v2, rfl, hq2, hb2⟩
      replace z0 := cell_stays hb2 z0
      replace z1 := cell_stays hb2 z1
      replace hbw := bel_tr hbw hb2
      clear hb2
      simp only at hq2
      have HQ2 := Lib.hid hq2
      obtain ⟨A2, c2, rfl, -, -, hat2⟩ := hq2
      have HAT := Lib.hid hat2
      clear hat2
      have hzl : w.heap.size < w2.heap.size := World.block_lt_of_cell? w2 _ z0
      simp only [zoneV]
      rcases hcc with ⟨hf, h⟩ | ⟨hf, h⟩ | ⟨hf, hbe, h⟩
      · injection h with e1 h
        injection h with e2 e3
        subst e1 e2 e3
        have HS : Hid ((decide (zoneErr (N : Int) bs = 0) && feas (N : Int).toNat (List.map ed bs)) = false ∧ decide (zoneErr (N : Int) bs = 0) = true) := Lib.hid (by rw [HZ.out, Int.toNat_natCast, hf]; simp)
        clear hf
        go_wp2_with (first
          | (go_at_call 26; refine (solvable_any N hn6 bs _ _ (HL.out.stays bdAt_stays (bel_al hbw _))).mono ?_; rw [HS.out.1, HS.out.2]; rintro e w3 ⟨rfl, hb3⟩)
          | (go_at_call 13; refine (awake_any _).mono ?_; rintro e w4 ⟨rfl, hb4⟩))
        go_ret
        exact ⟨rfl, bel_tr (bel_tr (bel_al hbw _) hb3) hb4⟩
      · injection h with e1 h
        injection h with e2 e3
        subst e1 e2 e3
        have HS : Hid ((decide (zoneErr (N : Int) bs = 0) && feas (N : Int).toNat (List.map ed bs)) = true ∧ decide (zoneErr (N : Int) bs = 0) = true) := Lib.hid (by rw [HZ.out, Int.toNat_natCast, hf]; simp)
        clear hf
        go_wp2_with (first
          | (go_at_call 26; refine (solvable_any N hn6 bs _ _ (HL.out.stays bdAt_stays (bel_al hbw _))).mono ?_; rw [HS.out.1, HS.out.2]; rintro e w3 ⟨rfl, hb3⟩)
          | (go_at_call 13; refine (awake_any _).mono ?_; rintro e w4 ⟨rfl, hb4⟩))
        go_ret
        exact ⟨rfl, bel_tr (bel_tr (bel_al hbw _) hb3) hb4⟩
      · injection h with e1 h
        injection h with e2 e3
        subst e1 e3
        have HF := Lib.hid hf
        obtain ⟨⟨ho, eo⟩, hho⟩ : ∃ r, holdsR N bs vs = r := ⟨_, rfl⟩
        have HH1 := Lib.hid hho
        have HH2 : Hid (holdsR N E vs = (ho, eo)) := Lib.hid (by rw [e2, holds_clo HZ.out (by omega) hf hbe, hho])
        have HAG : Hid (closeR N E = ((N : Int), E, 0)) := Lib.hid (by rw [e2]; exact close_again HZ.out (by omega) hf hbe)
        have HE := Lib.hid e2
        clear hf hho hbe e2
        go_wp2_with fail
        refine (holds_any N bs _ vs _ _ (HL.out.stays bdAt_stays (bel_al hbw _)) (HV.out.stays intAt_stays (bel_al hbw _))).mono ?_
        rw [HH1.out]
        rintro e w3 ⟨rfl, hb3⟩
        obtain ⟨hx, -⟩ := new_cells hb3
        have x0 : w3.cell? ⟨w2.heap.size, 0, none⟩ = some (.int .i64 (N : Int)) := hx 0
        have x1 : w3.cell? ⟨w2.heap.size, 1, none⟩ = some (.slice A2 E.length c2) := hx 1
        have hb23 := bel_tr (bel_one _ _) hb3
        replace z0 := cell_stays hb23 z0
        replace z1 := cell_stays hb23 z1
        replace hbw := bel_tr hbw hb23
        have HQ3 := Lib.hid (HQ2.out.stays bdAt_stays hb23)
        have HB23 := Lib.hid hb23
        clear hx hb3 hb23 hzl HQ2
        go_wp2_with (first
          | (go_at_call 28; refine (holds_any N E _ vs _ _ HQ3.out (HV.out.stays intAt_stays hbw)).mono ?_; rw [HH2.out]; rintro e w4 ⟨rfl, hb4⟩; replace z0 := cell_stays hb4 z0; replace z1 := cell_stays hb4 z1; replace x0 := cell_stays hb4 x0; replace x1 := cell_stays hb4 x1; replace hbw := bel_tr hbw hb4; replace HQ3 := Lib.hid (HQ3.out.stays bdAt_stays hb4); replace HB23 := Lib.hid (bel_tr HB23.out hb4); clear hb4)
          | (go_at_call 18; refine (close_any N hn6 E _ _ HQ3.out).mono ?_; rw [HAG.out]; rintro e w5 ⟨v5, rfl, hq5, hb5⟩; simp only at hq5; have HQ5 := Lib.hid hq5; obtain ⟨A5, c5, rfl, -⟩ := hq5; replace z0 := cell_stays hb5 z0; replace z1 := cell_stays hb5 z1; replace x0 := cell_stays hb5 x0; replace x1 := cell_stays hb5 x1; replace hbw := bel_tr hbw hb5; replace HQ3 := Lib.hid (HQ3.out.stays bdAt_stays hb5); replace HB23 := Lib.hid (bel_tr HB23.out hb5); have hxl : w2.heap.size < w5.heap.size := World.block_lt_of_cell? w5 _ x0; have hzl : w.heap.size < w5.heap.size := World.block_lt_of_cell? w5 _ z0; clear hb5; simp only [zoneV]))
        refine (sameZone_eq N E _ _ _ (HQ5.out.stays bdAt_stays (bel_one _ _)) (HQ3.out.stays bdAt_stays (bel_one _ _))).mono ?_
        rintro e w6 ⟨rfl, hb6⟩
        have hb56 := bel_tr (bel_one _ _) hb6
        replace z0 := cell_stays hb56 z0
        replace z1 := cell_stays hb56 z1
        replace x0 := cell_stays hb56 x0
        replace x1 := cell_stays hb56 x1
        replace hbw := bel_tr hbw hb56
        replace HB23 := Lib.hid (bel_tr HB23.out hb56)
        clear hb6 hb56 hxl hzl HQ3 HQ5
        go_wp2_with fail
        have hE36 : E.length ≤ 36 := by rw [HE.out]; exact clo_len (by omega) _
        go_loopw [100] (fun i wr => ∃ k : Nat, k ≤ E.length ∧ i = .int .i64 k ∧ Below w6.heap.size w6 wr) (fun i _ => E.length - (intOf i).toNat)
        case atStart => exact ⟨0, Nat.zero_le _, rfl, Below.refl _ _⟩
        case round =>
          obtain ⟨k, hk, rfl, hb⟩ := hrel
          replace z0 := cell_stays hb z0
          replace z1 := cell_stays hb z1
          by_cases hlt : k < E.length
          · have hlt' : (k : Int) < (E.length : Int) := by omega
            have hget := List.getElem?_eq_getElem hlt
            obtain ⟨b, hbk⟩ : ∃ b, b = E[k] := ⟨_, rfl⟩
            rw [← hbk] at hget
            have hmem : b ∈ E := by rw [hbk]; exact List.getElem_mem hlt
            rw [HE.out] at hmem
            obtain ⟨X, Y, m, hX, hY, hXY, htt, rfl⟩ := mem_entE.1 hmem
            obtain ⟨gb, ob, rfl, p0, p1, p2⟩ := HAT.out k _ hget
            simp only at p0 p1 p2
            replace p0 := cell_stays (bel_tr HB23.out hb) p0
            replace p1 := cell_stays (bel_tr HB23.out hb) p1
            replace p2 := cell_stays (bel_tr HB23.out hb) p2
            have hbl := World.block_lt_of_cell? wr _ p0
            have hzl : w.heap.size < wr.heap.size := World.block_lt_of_cell? wr _ z0
            simp only at hbl
            have HTT := Lib.hid htt
            have hX0 : ¬ (X : Int) < 0 := by omega
            have hY0 : ¬ (Y : Int) < 0 := by omega
            have hX1 : ¬ (N : Int) ≤ (X : Int) := by omega
            have hY1 : ¬ (N : Int) ≤ (Y : Int) := by omega
            clear hget hbk hmem htt
            by_cases hm1 : m ≤ -1125899906842624
            · go_wp2_with fail
              go_roundw
              case rel => exact ⟨k + 1, by omega, by go_num, bel_al hb _⟩
              case measure => simp [intOf]; omega
            · by_cases hm2 : 1125899906842624 ≤ m
              · go_wp2_with fail
                go_roundw
                case rel => exact ⟨k + 1, by omega, by go_num, bel_al hb _⟩
                case measure => simp [intOf]; omega
              · obtain ⟨nk, hnk⟩ : ∃ a, a = -m := ⟨_, rfl⟩
                obtain ⟨nj, hnj⟩ : ∃ a, a = nk - 1 := ⟨_, rfl⟩
                have hwk : IntKind.i64.wrap (-m) = nk := by rw [hnk]; exact IntWalk.i64_in _ (by omega)
                have hwj : IntKind.i64.wrap (nk - 1) = nj := by rw [hnj]; exact IntWalk.i64_in _ (by omega)
                have hz7 := zoneErr_app HZ.out (by omega : bs.length < 256) (boundErr_ok (n := (N : Int)) (b := ⟨(Y : Int), (X : Int), nk⟩) (by simp only; omega) (by simp only; omega) (by simp only; omega) (by simp only; omega) (by simp only; omega) (by simp only; omega))
                have hz8 := zoneErr_app HZ.out (by omega : bs.length < 256) (boundErr_ok (n := (N : Int)) (b := ⟨(Y : Int), (X : Int), nj⟩) (by simp only; omega) (by simp only; omega) (by simp only; omega) (by simp only; omega) (by simp only; omega) (by simp only; omega))
                obtain ⟨l7, e7⟩ : ∃ l, bs ++ [⟨(Y : Int), (X : Int), nk⟩] = l := ⟨_, rfl⟩
                obtain ⟨l8, e8⟩ : ∃ l, bs ++ [⟨(Y : Int), (X : Int), nj⟩] = l := ⟨_, rfl⟩
                have HS7 : Hid ((decide (zoneErr (N : Int) l7 = 0) && feas (N : Int).toNat (List.map ed l7)) = true ∧ decide (zoneErr (N : Int) l7 = 0) = true) := Lib.hid (by
                  have h := att_feas HZ.out HF.out hX hY HTT.out m
                  rw [← hnk, decide_eq_true (Int.le_refl m)] at h
                  rw [← e7, hz7, Int.toNat_natCast, h]
                  simp)
                have HS8 : Hid ((decide (zoneErr (N : Int) l8 = 0) && feas (N : Int).toNat (List.map ed l8)) = false ∧ decide (zoneErr (N : Int) l8 = 0) = true) := Lib.hid (by
                  have h := att_feas HZ.out HF.out hX hY HTT.out (m + 1)
                  rw [show -(m + 1) = nj by omega, decide_eq_false (by omega)] at h
                  rw [← e8, hz8, Int.toNat_natCast, h]
                  simp)
                have H7 := Lib.hid e7
                have H8 := Lib.hid e8
                clear hz7 hz8 e7 e8 hnk hnj
                go_wp2_with fail
                refine (with_any N bs _ Y X nk _ (HL.out.stays bdAt_stays (bel_tr hbw (bel_al hb _))) (by omega)).mono ?_
                rw [H7.out]
                rintro e w7 ⟨v7, rfl, hq7, hb7⟩
                have HQ7 := Lib.hid hq7
                obtain ⟨A7, c7, rfl, -⟩ := hq7
                obtain ⟨hx, -⟩ := new_cells hb7
                have y0 : w7.cell? ⟨wr.heap.size, 0, none⟩ = some (.int .i64 (X : Int)) := hx 0
                have y1 : w7.cell? ⟨wr.heap.size, 1, none⟩ = some (.int .i64 (Y : Int)) := hx 1
                have y2 : w7.cell? ⟨wr.heap.size, 2, none⟩ = some (.int .i64 m) := hx 2
                have hb67 := bel_tr (bel_one _ _) hb7
                replace z0 := cell_stays hb67 z0
                replace z1 := cell_stays hb67 z1
                replace hb := bel_tr hb hb67
                clear hx hb7 hb67 p0 p1 p2 hbl hzl
                simp only [zoneV]
                go_wp2_with fail
                refine (solvable_any N hn6 l7 _ _ HQ7.out).mono ?_
                rw [HS7.out.1, HS7.out.2]
                rintro e w8 ⟨rfl, hb8⟩
                replace z0 := cell_stays hb8 z0
                replace z1 := cell_stays hb8 z1
                replace y0 := cell_stays hb8 y0
                replace y1 := cell_stays hb8 y1
                replace y2 := cell_stays hb8 y2
                replace hb := bel_tr hb hb8
                clear hb8
                go_wp2_with fail
                refine (with_any N bs _ Y X nj _ (HL.out.stays bdAt_stays (bel_tr hbw hb)) (by omega)).mono ?_
                rw [H8.out]
                rintro e w9 ⟨v9, rfl, hq9, hb9⟩
                have HQ9 := Lib.hid hq9
                obtain ⟨A9, c9, rfl, -⟩ := hq9
                simp only [zoneV]
                go_wp2_with fail
                refine (solvable_any N hn6 l8 _ _ HQ9.out).mono ?_
                rw [HS8.out.1, HS8.out.2]
                rintro e w10 ⟨rfl, hb10⟩
                go_wp2_with fail
                go_roundw
                case rel => exact ⟨k + 1, by omega, by go_num, bel_tr (bel_tr hb hb9) hb10⟩
                case measure => simp [intOf]; omega
          · obtain rfl : k = E.length := by omega
            go_wp2_with (go_at_call 13; refine (awake_any _).mono ?_; rintro e w7 ⟨rfl, hb7⟩)
            go_ret
            exact ⟨rfl, bel_tr (bel_tr hbw hb) hb7⟩

set_option maxRecDepth 100000 in
theorem tights_lifted (os : Os) (started : os.Started) (H : Type) (enc : TypeId × Value → H) :
    ReturnsInHanded {} Try.checked os 6 .any (Rows.differenceTightSpec.pre6 enc Try.prog Try.f6 Rows.differenceTightRow.domain false) (Rows.differenceTightSpec.post enc Try.prog Try.f6 false true false false) := by
  refine returnsInHanded_of_change (C := Try.checked) own_none started (by kernel_rfl) Try.func6
    (ChangeSpec.witness6 (enc := enc) (C := Try.checked) false ⟨#[], #[.agg #[.int .i64 0, .slice none 0 0], .slice none 0 0], []⟩ 8 (by kernel_rfl) (by kernel_rfl) (by kernel_rfl) (by kernel_rfl)) ?_
  intro W base args ds gs before hval0 hW hcnd _
  have hval : ∀ (j : Nat) t v, Try.f6.params[j]? = some t → args[j]? = some v → Value.okWide Try.prog W .any base t v := hval0
  have hW' := hW
  obtain ⟨p, q, hA0, hV, rfl, hfz, hnd⟩ := hW
  have hA : DataW.TrodAll enc Try.prog W 0 (fun _ => true) true Try.f6.params.toList args.toList ds p := hA0
  rw [Try.params6] at hA hval
  obtain ⟨v0, vs0, d0, ds0, p0, q0, hargs, rfl, rfl, h0, r0⟩ := trodAll_cons hA
  obtain ⟨v1, vs1, d1, ds1, p1, q1, rfl, rfl, rfl, h1, r1⟩ := trodAll_cons r0
  obtain ⟨rfl, rfl, rfl⟩ := trodAll_nil r1
  obtain rfl : args = #[v0, v1] := by cases args; simp_all
  obtain ⟨rfl, rfl⟩ := trodVars_none hV
  have k0 := h0
  have lt0 : ∀ x ∈ p0, x.block < W.heap.size := by obtain ⟨m, hm⟩ := k0; exact DataW.trod_lt m _ _ _ hm
  obtain ⟨x0, l0, u0, rfl, w0⟩ := read_zone_by_value h0
  have k1 := h1
  have lt1 : ∀ x ∈ p1, x.block < W.heap.size := by obtain ⟨m, hm⟩ := k1; exact DataW.trod_lt m _ _ _ hm
  obtain ⟨s1, len1, cap1, rfl⟩ := okWide_slice Try.underlying27 (hval 1 27 v1 rfl rfl)
  obtain ⟨l1, w1⟩ : ∃ l, IsInts W (.slice s1 len1 cap1) l := by obtain ⟨fuel, hf⟩ := h1; exact read_ints (v := .slice s1 len1 cap1) hf
  clear hA0 hval0
  refine (tights_walk x0 l0 u0 l1 _ W w0 w1).mono fun e W' ⟨he, bel⟩ => ?_
  subst he
  exact ⟨_, rfl, _, _, _, [], _, [], hW', trodAll_mk1 (shut_bool Try.underlying4 _), (trodAll_cons_mk (Below.trod laid_out (by kernel_rfl) (of_decide_eq_true (by kernel_rfl)) k0 bel lt0) (trodAll_cons_mk (Below.trod laid_out (by kernel_rfl) (of_decide_eq_true (by kernel_rfl)) k1 bel lt1) trodAll_mk0)), rfl, bel.frame _, fun h => by cases h⟩

theorem tights_over : Rows.differenceTightRow.holds Try.pinned (OpenSpec.ofChange Rows.differenceTightSpec) :=
  OpenClaim.holds_of_wide 6 Try.f6 rfl rfl rfl rfl rfl rfl rfl ⟨rfl, rfl, rfl, rfl, rfl⟩ rfl rfl rfl rfl rfl (by kernel_rfl) Try.func6 (by kernel_rfl)
    (of_decide_eq_true (by kernel_rfl)) (by unfold Func.isWrapper; first | (rw [if_pos (by decide +kernel)]; kernel_rfl) | (rw [if_neg (by decide +kernel)]; exact ⟨rfl, rfl⟩))
    (fun os started H enc _ => tights_lifted os started H enc)

theorem tights_holds : Rows.DifferenceTightSaid := tights_over
#print axioms tights_holds
end Go.Proofs.Ytgecbjjcjemcgaa
