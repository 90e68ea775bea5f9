/- Inside and Meet of the program. -/
import Derived.Test.YtgecbjjcjemcgaaDcomp
import Derived.Test.YtgecbjjcjemcgaaDconcat
import Derived.Test.YtgecbjjcjemcgaaDclose
namespace Go.Proofs.Ytgecbjjcjemcgaa
open Go.RowKit

def insideR (na : Int) (xs : List Bd) (nb : Int) (bs : List Bd) : Bool × Int := if bothErr na xs nb bs = 0 then (bs.all (hasB na.toNat xs), 0) else (false, bothErr na xs nb bs)
def meetR (na : Int) (xs : List Bd) (nb : Int) (bs : List Bd) : Int × List Bd × Int :=
  if bothErr na xs nb bs = 0 then (if 256 < (xs.length : Int) + (bs.length : Int) then (0, [], 5) else (na, xs ++ bs, 0)) else (0, [], bothErr na xs nb bs)
theorem bothErr_ok {na : Int} {xs : List Bd} {nb : Int} {bs : List Bd} (h : bothErr na xs nb bs = 0) : zoneErr na xs = 0 ∧ zoneErr nb bs = 0 ∧ na = nb := by
  unfold bothErr at h
  split at h
  · rename_i h1
    split at h
    · rename_i h2
      split at h
      · rename_i h3; exact ⟨h1, h2, h3⟩
      · cases h
    · rename_i h2; exact absurd h h2
  · rename_i h1; exact absurd h h1
theorem all_not_any {α : Type} (p : α → Bool) (l : List α) : (!(l.any fun x => !p x)) = l.all p := by
  rw [List.not_any_eq_all_not]
  simp

theorem keep3 {w W : World} {p1 p2 p3 : Nat × Nat} {v1 v2 v3 : Value} (hb : Below w.heap.size w W) (h : w.cell? ⟨p1.1, p1.2, none⟩ = some v1 ∧ w.cell? ⟨p2.1, p2.2, none⟩ = some v2 ∧ w.cell? ⟨p3.1, p3.2, none⟩ = some v3) :
    W.cell? ⟨p1.1, p1.2, none⟩ = some v1 ∧ W.cell? ⟨p2.1, p2.2, none⟩ = some v2 ∧ W.cell? ⟨p3.1, p3.2, none⟩ = some v3 :=
  ⟨cell_stays hb h.1, cell_stays hb h.2.1, cell_stays hb h.2.2⟩

theorem keep3s {w W : World} {r i j : Nat} {x y : Value} {p1 p2 p3 : Nat × Nat} {v1 v2 v3 : Value} (hb : Below w.heap.size w W) (h : w.cell? ⟨p1.1, p1.2, none⟩ = some v1 ∧ w.cell? ⟨p2.1, p2.2, none⟩ = some v2 ∧ w.cell? ⟨p3.1, p3.2, none⟩ = some v3) (n1 : r ≠ p1.1) (n2 : r ≠ p2.1) (n3 : r ≠ p3.1) :
    ((W.setCell ⟨r, i, none⟩ x).setCell ⟨r, j, none⟩ y).cell? ⟨p1.1, p1.2, none⟩ = some v1 ∧ ((W.setCell ⟨r, i, none⟩ x).setCell ⟨r, j, none⟩ y).cell? ⟨p2.1, p2.2, none⟩ = some v2 ∧ ((W.setCell ⟨r, i, none⟩ x).setCell ⟨r, j, none⟩ y).cell? ⟨p3.1, p3.2, none⟩ = some v3 :=
  ⟨by rw [cell_far n1, cell_far n1]; exact cell_stays hb h.1, by rw [cell_far n2, cell_far n2]; exact cell_stays hb h.2.1, by rw [cell_far n3, cell_far n3]; exact cell_stays hb h.2.2⟩

theorem inside1_any (n : Nat) (xs : List Bd) (g : FuncId) (caps : List Value) (b : Bd) (q : Nat) (w0 W : World) (hd : Decider w0 n xs g caps) (hb : Below w0.heap.size w0 W) (hq : W.cell? ⟨q, 0, none⟩ = some (.func (.func g) #[] caps.toArray)) (hin : inB n b) :
    Calls Try.prog 66 #[bdV b, .pointer (some ⟨q, 0, none⟩)] W fun e W' => e = .returned (.bool (!hasB n xs b)) ∧ Below W.heap.size W W' := by
  obtain ⟨eg, hd⟩ := hd
  have HD := Lib.hid hd
  have hl := World.block_lt_of_cell? W _ hq
  simp only at hl
  clear hd
  obtain ⟨r, hr⟩ : ∃ r, hasB n xs b = r := ⟨_, rfl⟩
  have HR := Lib.hid hr
  clear hr
  rw [HR.out]
  have HIN := Lib.hid hin
  clear hin
  unfold bdV
  go_enter Try.func66, Try.ntmps66
  go_wp2_with fail
  refine (HD.out _ b (bel_al hb _) HIN.out).mono ?_
  rw [HR.out]
  rintro e w2 ⟨rfl, hb2⟩
  go_wp2_with fail
  go_ret
  exact ⟨rfl, bel_tr (bel_one _ _) hb2⟩
theorem enter_inside1 (args : Array Value) (W : World) : (callFunc 66 args).run Try.prog W = .ok (.enter 66 args) W := by rfl

set_option maxRecDepth 100000 in
set_option maxHeartbeats 2000000 in
theorem inside_any (na : Int) (hn6 : na ≤ 6) (xs : List Bd) (nb : Int) (bs : List Bd) (va vb : Value) (w : World) (ha : IsBds w va xs) (hb : IsBds w vb bs) :
    Calls Try.prog 37 #[zoneV na va, zoneV nb vb] w fun e W => e = .returned (.tuple #[.bool (insideR na xs nb bs).1, .int .i64 (insideR na xs nb bs).2]) ∧ Below w.heap.size w W := by
  unfold zoneV
  have HA := Lib.hid ha
  have HB := Lib.hid hb
  obtain ⟨A, ca, rfl, -, -, -⟩ := ha
  obtain ⟨B, cb, rfl, -, -, -⟩ := hb
  obtain ⟨e0, he0⟩ : ∃ e, bothErr na xs nb bs = e := ⟨_, rfl⟩
  have HE0 := Lib.hid he0
  by_cases h0 : e0 = 0
  · have g0 : (e0 != 0) = false := by simpa using h0
    obtain ⟨hz1, hz2, hnn⟩ := bothErr_ok (he0.trans h0)
    obtain ⟨hn1, -, hlen, hgood⟩ := good_of hz1
    have hgb := (good_of hz2).2.2.2
    subst hnn
    obtain ⟨N, rfl⟩ := Int.eq_ofNat_of_zero_le (by omega : 0 ≤ na)
    rw [Int.toNat_natCast] at hgood hgb
    obtain ⟨r, hr⟩ : ∃ r, (bs.any fun b => !hasB N xs b) = r := ⟨_, rfl⟩
    have HRR := Lib.hid hr
    have HR : Hid (insideR N xs N bs = (!r, 0)) := Lib.hid (by unfold insideR; rw [if_pos (he0.trans h0), Int.toNat_natCast, ← all_not_any, hr])
    have HG := Lib.hid hgood
    have HGB := Lib.hid hgb
    clear he0 h0 hgood hgb hr hz1 hz2
    rw [HR.out]
    go_enter Try.func37, Try.ntmps37
    go_wp2_with (go_at_call 65; refine (both_any N xs N bs _ _ _ (HA.out.stays bdAt_stays (bel_al (bel_one _ _) _)) (HB.out.stays bdAt_stays (bel_al (bel_one _ _) _))).mono ?_; rw [HE0.out]; rintro e w1 ⟨rfl, hb1⟩; obtain ⟨hz, hr, hrf, hbw, hsz⟩ := two_cells hb1; clear hb1 hrf)
    refine (implied_any N ⟨by omega, by omega⟩ xs _ _ (HA.out.stays bdAt_stays hbw) HG.out hlen).mono ?_
    rintro e w3 ⟨g, caps, rfl, hd, hb3⟩
    have HD := Lib.hid hd
    have hr3 := arr_keep hr (by omega) hb3
    have hbw3 := bel_tr hbw hb3
    have b1 : w3.cell? ⟨w.heap.size + 1, 1, none⟩ = some (.slice B bs.length cb) := hr3 1
    have hl3 : w.heap.size + 1 < w3.heap.size := World.block_lt_of_cell? w3 _ b1
    have hst : ∀ (W : World) (a : Addr), (store a (.func (.func g) #[] caps.toArray)).run Try.prog W = stored Try.prog W a (.func (.func g) #[] caps.toArray) .plain := fun W a => run_store Try.prog W a _ .plain rfl
    clear hd hr hz hbw hb3 hr3
    go_wp2_with (go_at_call 56; refine (containsBds_any 66 [.pointer (some ⟨w3.heap.size, 0, none⟩)] (fun b => !hasB N xs b) bs _ _ (HB.out.stays bdAt_stays (bel_al hbw3 _)) enter_inside1 (fun W b hW hm => inside1_any N xs g caps b _ w3 W HD.out (bel_tr (bel_one _ _) hW) ((new_cells hW).1 0) (by have h := HGB.out b hm; exact ⟨h.1, h.2.1, h.2.2.1, h.2.2.2.1⟩))).mono ?_; rw [HRR.out]; rintro e w5 ⟨rfl, hb5⟩)
    go_ret2
    exact ⟨rfl, bel_tr (bel_al hbw3 _) hb5⟩
  · have g0 : (e0 != 0) = true := by simpa using h0
    have HR : Hid (insideR na xs nb bs = (false, e0)) := Lib.hid (by unfold insideR; rw [he0, if_neg h0])
    clear he0 h0
    rw [HR.out]
    go_enter Try.func37, Try.ntmps37
    go_wp2_with (go_at_call 65; refine (both_any na xs nb bs _ _ _ (HA.out.stays bdAt_stays (bel_al (bel_one _ _) _)) (HB.out.stays bdAt_stays (bel_al (bel_one _ _) _))).mono ?_; rw [HE0.out]; rintro e w1 ⟨rfl, hb1⟩)
    go_ret2
    exact ⟨rfl, bel_tr (bel_al (bel_one _ _) _) hb1⟩

set_option maxRecDepth 100000 in
set_option maxHeartbeats 2000000 in
theorem meet_any (na : Int) (xs : List Bd) (nb : Int) (bs : List Bd) (va vb : Value) (w : World) (ha : IsBds w va xs) (hb : IsBds w vb bs) :
    Calls Try.prog 39 #[zoneV na va, zoneV nb vb] w (ZoneRet w (meetR na xs nb bs)) := by
  unfold zoneV
  have HA := Lib.hid ha
  have HB := Lib.hid hb
  obtain ⟨A, ca, rfl, -, -, -⟩ := ha
  obtain ⟨B, cb, rfl, -, -, -⟩ := hb
  obtain ⟨e0, he0⟩ : ∃ e, bothErr na xs nb bs = e := ⟨_, rfl⟩
  have HE0 := Lib.hid he0
  by_cases h0 : e0 = 0
  · have g0 : (e0 != 0) = false := by simpa using h0
    obtain ⟨hz1, hz2, -⟩ := bothErr_ok (he0.trans h0)
    have hl1 := (good_of hz1).2.2.1
    have hl2 := (good_of hz2).2.2.1
    have hw1 : IntKind.i64.wrap ((xs.length : Int) + (bs.length : Int)) = (xs.length : Int) + (bs.length : Int) := IntWalk.i64_in _ (by omega)
    have H0 : Hid (bothErr na xs nb bs = 0) := Lib.hid (he0.trans h0)
    clear he0 h0 hz1 hz2
    by_cases h5 : 256 < (xs.length : Int) + (bs.length : Int)
    · have HR : Hid (meetR na xs nb bs = (0, [], 5)) := Lib.hid (by unfold meetR; rw [if_pos H0.out, if_pos h5])
      go_enter Try.func39, Try.ntmps39
      go_wp2_with (go_at_call 65; refine (both_any na xs nb bs _ _ _ (HA.out.stays bdAt_stays (bel_al (bel_al (bel_one _ _) _) _)) (HB.out.stays bdAt_stays (bel_al (bel_al (bel_one _ _) _) _))).mono ?_; rw [HE0.out]; rintro e w1 ⟨rfl, hb1⟩; obtain ⟨hz, hun, hr, hrf, hbw, hsz⟩ := three_cells hb1; clear hb1)
      rw [HR.out]
      exact bodyPost_ret (v := .tuple #[.agg #[.int .i64 0, .slice none 0 0], .int .i64 5]) (by simp [results, Try.results39, go_sem, hr]) rfl ⟨_, rfl, Sl.nil _ _ _ _ _ (Nat.zero_le _), bel_set (bel_set hbw (by omega) _) (by omega) _⟩
    · have HR : Hid (meetR na xs nb bs = (na, xs ++ bs, 0)) := Lib.hid (by unfold meetR; rw [if_pos H0.out, if_neg h5])
      obtain ⟨l, hl⟩ : ∃ l, l = xs ++ bs := ⟨_, rfl⟩
      rw [← hl] at HR
      have HLL := Lib.hid hl
      clear hl
      go_enter Try.func39, Try.ntmps39
      go_wp2_with (go_at_call 65; refine (both_any na xs nb bs _ _ _ (HA.out.stays bdAt_stays (bel_al (bel_al (bel_one _ _) _) _)) (HB.out.stays bdAt_stays (bel_al (bel_al (bel_one _ _) _) _))).mono ?_; rw [HE0.out]; rintro e w1 ⟨rfl, hb1⟩; obtain ⟨hz, hun, hr, hrf, hbw, hsz⟩ := three_cells hb1; clear hb1)
      have a0 : w1.cell? ⟨w.heap.size, 0, none⟩ = some (.int .i64 na) := hz 0
      have a1 : w1.cell? ⟨w.heap.size, 1, none⟩ = some (.slice A xs.length ca) := hz 1
      have b1 : w1.cell? ⟨w.heap.size + 1, 1, none⟩ = some (.slice B bs.length cb) := hun 1
      have r0 : w1.cell? ⟨w.heap.size + 1 + 1, 0, none⟩ = some (.int .i64 0) := hr 0
      have r1 : w1.cell? ⟨w.heap.size + 1 + 1, 1, none⟩ = some (.slice none 0 0) := hr 1
      have HRF := Lib.hid hrf
      have HHR := Lib.hid hr
      have hne1 : w.heap.size + 1 + 1 ≠ w.heap.size := by omega
      have hne2 : w.heap.size + 1 + 1 ≠ w.heap.size + 1 := by omega
      clear hz hun hr hrf
      go_region_held3 (fun W => W.cell? ⟨w.heap.size, 0, none⟩ = some (.int .i64 na) ∧ W.cell? ⟨w.heap.size, 1, none⟩ = some (.slice A xs.length ca) ∧ W.cell? ⟨w.heap.size + 1, 1, none⟩ = some (.slice B bs.length cb)) (first | (with_reducible exact keep3s (p1 := (w.heap.size, 0)) (p2 := (w.heap.size, 1)) (p3 := (w.heap.size + 1, 1)) hb3 ⟨a0, a1, b1⟩ (hne1) (hne1) (hne2)) | (with_reducible exact keep3 (p1 := (w.heap.size, 0)) (p2 := (w.heap.size, 1)) (p3 := (w.heap.size + 1, 1)) (by repeat (first | with_reducible exact Below.refl _ _ | assumption | with_reducible refine Below.drew ?_ | with_reducible refine bel_al ?_ _ | with_reducible refine bel_tr ?_ (by assumption))) ⟨a0, a1, b1⟩)) (first
        | (go_at_call 68; refine (concat2_any xs bs A B ca cb _ _ (HA.out.stays bdAt_stays (bel_tr hbw (bel_one _ _).drew)) (HB.out.stays bdAt_stays (bel_tr hbw (bel_one _ _).drew)) (by omega) (by go_simp) (by go_simp)).mono ?_; rw [← HLL.out]; rintro e w3 ⟨v3, rfl, hq3, hb3'⟩; have hb3 : Below w1.heap.size w1 w3 := bel_tr (bel_one _ _).drew hb3'; clear hb3'; obtain ⟨hr3, hrf3, hsz3⟩ := arr_keep2 HHR.out HRF.out (by omega) hb3; have HQ3 := Lib.hid hq3; obtain ⟨A3, c3, rfl, -⟩ := hq3))
      go_wp2_with fail
      rw [HR.out]
      refine bodyPost_ret (v := .tuple #[.agg #[.int .i64 na, .slice A3 l.length c3], .int .i64 0]) (by simp [results, Try.results39, go_sem, hr3]) rfl ⟨_, rfl, ?_, bel_set (bel_set (bel_tr hbw hb3) (by omega) _) (by omega) _⟩
      exact isBds_set HQ3.out hr3 (by decide) _ _ _ _
  · have g0 : (e0 != 0) = true := by simpa using h0
    have HR : Hid (meetR na xs nb bs = (0, [], e0)) := Lib.hid (by unfold meetR; rw [he0, if_neg h0])
    clear he0 h0
    go_enter Try.func39, Try.ntmps39
    go_wp2_with (go_at_call 65; refine (both_any na xs nb bs _ _ _ (HA.out.stays bdAt_stays (bel_al (bel_al (bel_one _ _) _) _)) (HB.out.stays bdAt_stays (bel_al (bel_al (bel_one _ _) _) _))).mono ?_; rw [HE0.out]; rintro e w1 ⟨rfl, hb1⟩; obtain ⟨hz, hun, hr, hrf, hbw, hsz⟩ := three_cells hb1; clear hb1)
    rw [HR.out]
    exact bodyPost_ret (v := .tuple #[.agg #[.int .i64 0, .slice none 0 0], .int .i64 e0]) (by simp [results, Try.results39, go_sem, hr]) rfl ⟨_, rfl, Sl.nil _ _ _ _ _ (Nat.zero_le _), bel_set (bel_set hbw (by omega) _) (by omega) _⟩
end Go.Proofs.Ytgecbjjcjemcgaa
