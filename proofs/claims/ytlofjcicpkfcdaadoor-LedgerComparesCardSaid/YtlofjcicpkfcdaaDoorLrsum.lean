/- ref.Sum, two, limited, Merge, Once. -/
import Derived.Test.YtlofjcicpkfcdaaDoorLradd
import Derived.Test.YtlofjcicpkfcdaaDoorLlaws
import Derived.Test.YtlofjcicpkfcdaaDoorLawake
namespace Go.Proofs.YtlofjcicpkfcdaaDoor
open Go.RowKit

def scaleE (f : Int) (b : List Ety) : List Ety := b.map fun x => ⟨x.q, x.bs, x.n * f⟩
theorem scale_take {f : Int} {b : List Ety} {k : Nat} {x : Ety} (h : b[k]? = some x) : scaleE f (b.take (k + 1)) = scaleE f (b.take k) ++ [⟨x.q, x.bs, x.n * f⟩] := by
  unfold scaleE; rw [take_snoc' h, List.map_append]; rfl
theorem absI_mul {f n : Int} (hf : f = 1 ∨ f = -1) : absI (n * f) = absI n := by
  unfold absI; rcases hf with rfl | rfl <;> (split <;> split <;> omega)
theorem sumA_scale {f : Int} (hf : f = 1 ∨ f = -1) (b : List Ety) : sumA (scaleE f b) = sumA b := by
  induction b with
  | nil => rfl
  | cons x b ih =>
    show absI (x.n * f) + sumA (scaleE f b) = absI x.n + sumA b
    rw [ih, absI_mul hf]
theorem sumE_snoc (a b : List Ety) (x : Ety) : sumE a (b ++ [x]) = addE (sumE a b) x := by unfold sumE; rw [List.foldl_append]; rfl

set_option maxRecDepth 100000 in
set_option maxHeartbeats 4000000 in
theorem rsum_any (a b : List Ety) (f : Int) (hf : f = 1 ∨ f = -1) (va vb : Value) (w : World) (ha : IsEnts w va a) (hb : IsEnts w vb b) (hlen : a.length + b.length ≤ 1000000) (hs : sumA a + sumA b ≤ 1000000000000000) :
    Calls Tryd.prog 60 #[va, vb, .int .i64 f] w fun e w' => ∃ v', e = .returned v' ∧ IsEnts w' v' (sumE a (scaleE f b)) ∧ Below w.heap.size w w' := by
  have HA := Lib.hid ha
  have HF := Lib.hid hf
  have HSM := Lib.hid hs
  have HLEN := Lib.hid hlen
  obtain ⟨A, ca, rfl, -⟩ := ha
  obtain ⟨B, c, rfl, h1, h2, hat⟩ := hb
  have hn := len_i64 h1 h2
  have HL := Lib.hid hat
  clear hat h1 h2 hf hs hlen
  go_enter Tryd.func60, Tryd.ntmps60
  go_wp2_with fail
  go_loopw [0, 7] (fun sv i wr => ∃ (k : Nat) (A' : Option Addr) (c' : Nat), k ≤ b.length ∧ i = .int .i64 k ∧ sv = .slice A' (sumE a (scaleE f (b.take k))).length c' ∧ Hid (IsEnts wr sv (sumE a (scaleE f (b.take k))) ∧ Below w.heap.size w wr)) (fun _ i _ => b.length - (intOf i).toNat)
  case atStart => exact ⟨0, A, ca, Nat.zero_le _, rfl, rfl, Lib.hid ⟨HA.out, Below.refl _ _⟩⟩
  case round =>
    obtain ⟨k, A', c', hk, rfl, rfl, hI⟩ := hrel
    have hbr := hI.out.2
    by_cases hlt : k < b.length
    · have hk' : (k : Int) < (b.length : Int) := by omega
      obtain ⟨b1, o1, rfl, v', hv', x0, x1, x2⟩ := HL.out k b[k] (List.getElem?_eq_getElem hlt)
      replace x0 := cell_stays hbr x0
      replace x1 := cell_stays hbr x1
      replace x2 := cell_stays hbr x2
      have hget := Lib.hid (List.getElem?_eq_getElem hlt)
      have hxa := sumA_one (List.getElem_mem hlt)
      obtain ⟨x, hx⟩ : ∃ x, x = b[k] := ⟨_, rfl⟩
      rw [← hx] at hget x0 x2 hv' hxa
      have HV := Lib.hid (hv'.stays bndAt_stays hbr)
      obtain ⟨A9, c9, rfl, -⟩ := hv'
      have hbl : b1 < wr.heap.size := World.block_lt_of_cell? wr ⟨b1, _, none⟩ x0
      have hnb : b1 ≠ wr.heap.size := by omega
      have hnb' : wr.heap.size ≠ b1 := by omega
      have hge := absI_ge x.n
      have hga := sumA_ge a
      have hxb : -1000000000000000 ≤ x.n ∧ x.n ≤ 1000000000000000 := by have := HSM.out; omega
      obtain ⟨m, hm⟩ : ∃ m, x.n * f = m := ⟨_, rfl⟩
      have hmb : -1000000000000000 ≤ m ∧ m ≤ 1000000000000000 := by rw [← hm]; rcases HF.out with h | h <;> rw [h] <;> omega
      have hw1 : IntKind.i64.wrap (x.n * f) = m := by rw [hm]; exact IntWalk.i64_in _ (by omega)
      have HMM := Lib.hid hm
      have hbound : ∀ e ∈ sumE a (scaleE f (b.take k)), -1000000000000000 ≤ e.n ∧ e.n ≤ 1000000000000000 := fun e he => by
        have h1 := sumA_one he
        have h2 := sumA_sumE a (scaleE f (b.take k))
        rw [sumA_scale HF.out] at h2
        have h3 := sumA_mono b k
        have h4 := absI_ge e.n
        have := HSM.out
        omega
      have hlen2 : (sumE a (scaleE f (b.take k))).length ≤ 1000000 := by
        have h1 := sumE_len a (scaleE f (b.take k))
        unfold scaleE at h1 ⊢
        rw [List.length_map, List.length_take] at h1
        have := HLEN.out
        omega
      have HBD := Lib.hid hbound
      have HL2 := Lib.hid hlen2
      clear hx hge hga hxa hm hbound hlen2
      go_wp2_with fail
      refine calls_gen fun W9 e9 => ?_
      have hb9 : Below wr.heap.size wr W9 := by rw [e9]; exact (by repeat (first | exact Below.refl _ _ | assumption | refine Below.drew ?_ | refine bel_al ?_ _ | refine bel_set ?_ (by omega) _ | refine bel_tr ?_ (by assumption)))
      clear e9
      refine (radd_any (sumE a (scaleE f (b.take k))) ⟨x.q, x.bs, m⟩ _ _ W9 (hI.out.1.stays entAt_stays hb9) (HV.out.stays bndAt_stays hb9) HL2.out HBD.out hmb).mono ?_
      rintro e w3 ⟨v3, rfl, hv3, hb3⟩
      rw [← sumE_snoc, ← HMM.out, ← scale_take hget.out] at hv3
      have H3 := Lib.hid hv3
      obtain ⟨A3, c3, rfl⟩ := sl_len hv3 rfl
      have HB3 := Lib.hid (bel_tr (bel_tr hbr hb9) hb3)
      clear hv3 hb3 hb9
      go_wp2_with fail
      go_roundw
      case rel => exact ⟨k + 1, A3, c3, by omega, by go_num, rfl, Lib.hid ⟨H3.out, HB3.out⟩⟩
      case measure => simp [intOf]; omega
    · have hk' : ¬ (k : Int) < (b.length : Int) := by omega
      have hke : k = b.length := by omega
      subst hke
      have HI := Lib.hid hI.out
      clear hI
      go_wp2_with fail
      go_ret
      have h7 := HI.out.1
      rw [List.take_length] at h7
      exact ⟨_, rfl, h7, HI.out.2⟩

set_option maxRecDepth 100000 in
set_option maxHeartbeats 1000000 in
theorem rtwo_any (a b : List Ety) (va vb : Value) (w : World) (ha : IsEnts w va a) (hb : IsEnts w vb b) : Calls Tryd.prog 57 #[va, vb] w fun e w' => e = .returned (.int .i64 (bothE a b)) ∧ Below w.heap.size w w' := by
  have HA := Lib.hid ha
  have HB := Lib.hid hb
  obtain ⟨A, c, rfl, -⟩ := ha
  obtain ⟨B, d, rfl, -⟩ := hb
  unfold bothE
  obtain ⟨e1, he1⟩ : ∃ e, ledErr a = e := ⟨_, rfl⟩
  have HE1 := Lib.hid he1
  rw [he1]
  clear he1
  by_cases h0 : e1 = 0
  · subst h0
    rw [if_neg (by simp)]
    go_enter Tryd.func57, Tryd.ntmps57
    go_wp2_with fail
    refine (rlcheck_any a _ w HA.out).mono ?_
    rw [HE1.out]
    rintro e w2 ⟨rfl, hb2⟩
    go_wp2_with fail
    refine (rlcheck_any b _ w2 (HB.out.stays entAt_stays hb2)).mono ?_
    rintro e w3 ⟨rfl, hb3⟩
    go_wp2_with fail
    go_ret
    exact ⟨rfl, bel_tr hb2 hb3⟩
  · rw [if_pos h0]
    have h0' : (e1 != 0) = true := by simpa using h0
    go_enter Tryd.func57, Tryd.ntmps57
    go_wp2_with (go_at_call 40; refine (rlcheck_any a _ w HA.out).mono ?_; rw [HE1.out]; rintro e w2 ⟨rfl, hb2⟩)
    go_ret
    exact ⟨rfl, hb2⟩

set_option maxRecDepth 100000 in
set_option maxHeartbeats 1000000 in
theorem rlimited_any (T : List Ety) (v : Value) (w : World) (hl : IsEnts w v T) : Calls Tryd.prog 59 #[v] w (LedRet w (limR T)) := by
  have HT := Lib.hid hl
  obtain ⟨A, c, rfl, h1, h2, hat⟩ := hl
  have hn := len_i64 h1 h2
  have HL := Lib.hid hat
  clear hat h1 h2
  unfold limR
  by_cases hm : 4096 < T.length
  · rw [if_pos hm]
    have hm' : (4096 : Int) < (T.length : Int) := by omega
    go_enter Tryd.func59, Tryd.ntmps59
    go_wp2_with fail
    go_ret2
    exact ⟨_, rfl, Sl.nil _ _ _ _ _ (Nat.zero_le _), Below.refl _ _⟩
  rw [if_neg hm]
  have hm' : ¬ (4096 : Int) < (T.length : Int) := by omega
  obtain ⟨R, hR⟩ : ∃ R : List Ety × Int, (if T.any (fun x => greatI x.n) = true then ([], 2) else (T, 0)) = R := ⟨_, rfl⟩
  have HR := Lib.hid hR
  rw [hR]
  clear hR hm
  go_enter Tryd.func59, Tryd.ntmps59
  go_wp2_with fail
  go_loop [4] (fun i => ∃ k : Nat, k ≤ T.length ∧ i = .int .i64 k ∧ Hid (∀ (j : Nat) (x : Ety), T[j]? = some x → j < k → greatI x.n = false)) (fun i => T.length - (intOf i).toNat)
  case atStart => exact ⟨0, Nat.zero_le _, rfl, Lib.hid fun _ _ _ h => absurd h (by omega)⟩
  case round =>
    obtain ⟨k, hk, rfl, hi⟩ := hrel
    by_cases hlt : k < T.length
    · have hk' : (k : Int) < (T.length : Int) := by omega
      obtain ⟨b1, o1, rfl, v', hv', x0, x1, x2⟩ := HL.out k T[k] (List.getElem?_eq_getElem hlt)
      have hget := Lib.hid (List.getElem?_eq_getElem hlt)
      obtain ⟨x, hx⟩ : ∃ x, x = T[k] := ⟨_, rfl⟩
      rw [← hx] at hget x2
      clear hx hv' x0 x1
      obtain ⟨g, hg⟩ : ∃ g, greatI x.n = g := ⟨_, rfl⟩
      have HG := Lib.hid hg
      clear hg
      cases g with
      | true =>
        have HX : Hid (R = ([], 2)) := Lib.hid (by
          rw [← HR.out, if_pos]
          exact List.any_eq_true.2 ⟨x, List.mem_of_getElem? hget.out, HG.out⟩)
        go_wp2_with (go_at_call 68; refine (rgreat_any _ _).mono ?_; rw [HG.out]; rintro e w' ⟨rfl, rfl⟩)
        go_ret2
        rw [HX.out]
        exact ⟨_, rfl, Sl.nil _ _ _ _ _ (Nat.zero_le _), Below.refl _ _⟩
      | false =>
        go_wp2_with (go_at_call 68; refine (rgreat_any _ _).mono ?_; rw [HG.out]; rintro e w' ⟨rfl, rfl⟩)
        go_round
        case rel =>
          refine ⟨k + 1, by omega, by go_num, Lib.hid ?_⟩
          intro j y hj hjk
          rcases Nat.lt_or_eq_of_le (Nat.le_of_lt_succ hjk) with h | h
          · exact hi.out j y hj h
          · subst h; rw [hget.out] at hj; injection hj with hj; subst hj; exact HG.out
        case measure => simp [intOf]; omega
    · have hk' : ¬ (k : Int) < (T.length : Int) := by omega
      have HX : Hid (R = (T, 0)) := Lib.hid (by
        rw [← HR.out, if_neg]
        intro h
        obtain ⟨x, hx, hg⟩ := List.any_eq_true.1 h
        obtain ⟨j, hj⟩ := List.mem_iff_getElem?.1 hx
        have := hi.out j x hj (by have := (List.getElem?_eq_some_iff.1 hj).1; omega)
        rw [this] at hg; exact absurd hg (by decide))
      go_wp2_with fail
      go_ret2
      rw [HX.out]
      exact ⟨_, rfl, HT.out, Below.refl _ _⟩

theorem scale_one (b : List Ety) : scaleE 1 b = b := by
  unfold scaleE
  conv => rhs; rw [← List.map_id b]
  refine List.map_congr_left fun x _ => ?_
  cases x; simp
theorem scale_neg (b : List Ety) : scaleE (-1) b = neg b := by
  unfold scaleE neg
  refine List.map_congr_left fun x _ => ?_
  simp only [Ety.mk.injEq, true_and]; omega
theorem fit_sum {l : List Ety} (hf : ∀ x ∈ l, FitE x) (hl : l.length ≤ 100) : sumA l ≤ 109951162777600 := by
  have := sumA_le (l := l) (B := 1099511627776) fun x hx => by have := (hf x hx).2; unfold absI; split <;> omega
  omega
theorem both_0 {a b : List Ety} (h : bothE a b = 0) : ledErr a = 0 ∧ ledErr b = 0 := by
  unfold bothE at h
  split at h
  · next h1 => exact absurd h h1
  · next h1 => exact ⟨by simpa using h1, h⟩

set_option maxRecDepth 100000 in
set_option maxHeartbeats 1000000 in
theorem rmerge_any (a b : List Ety) (va vb : Value) (w : World) (ha : IsEnts w va a) (hb : IsEnts w vb b) (hal : a.length ≤ 100) (hbl : b.length ≤ 100) : Calls Tryd.prog 25 #[va, vb] w (LedRet w (mergeR a b)) := by
  have HA := Lib.hid ha
  have HB := Lib.hid hb
  obtain ⟨A, c, rfl, -⟩ := ha
  obtain ⟨B, d, rfl, -⟩ := hb
  unfold mergeR
  obtain ⟨e1, he1⟩ : ∃ e, bothE a b = e := ⟨_, rfl⟩
  have HE1 := Lib.hid he1
  rw [he1]
  clear he1
  by_cases h0 : e1 = 0
  · subst h0
    rw [if_neg (by simp)]
    obtain ⟨k1, k2⟩ := both_0 HE1.out
    have h1 := led_ok k1
    have h2 := led_ok k2
    have HS : Hid (sumA a + sumA b ≤ 1000000000000000) := Lib.hid (by
      have := fit_sum h1.2.1 hal
      have := fit_sum h2.2.1 hbl
      omega)
    have HEQ : Hid (sumE a (scaleE 1 b) = sumE [] (a ++ b)) := Lib.hid (by rw [scale_one, sumE_app, sum_led h1.1])
    clear h1 h2 k1 k2
    go_enter Tryd.func25, Tryd.ntmps25
    go_wp2_with fail
    refine (rtwo_any a b _ _ w HA.out HB.out).mono ?_
    rw [HE1.out]
    rintro e w2 ⟨rfl, hb2⟩
    go_wp2_with fail
    refine (rsum_any a b 1 (.inl rfl) _ _ w2 (HA.out.stays entAt_stays hb2) (HB.out.stays entAt_stays hb2) (by omega) HS.out).mono ?_
    rw [HEQ.out]
    rintro e w3 ⟨v3, rfl, hv3, hb3⟩
    have HV3 := Lib.hid hv3
    obtain ⟨A3, c3, rfl, -⟩ := hv3
    go_wp2_with fail
    refine (rlimited_any _ _ w3 HV3.out).mono ?_
    rintro e w4 ⟨v4, rfl, hv4, hb4⟩
    have HV4 := Lib.hid hv4
    obtain ⟨A4, c4, rfl, -⟩ := hv4
    go_wp2_with fail
    go_ret2
    exact ⟨_, rfl, HV4.out, bel_tr (bel_tr hb2 hb3) hb4⟩
  · rw [if_pos h0]
    have h0' : (e1 != 0) = true := by simpa using h0
    go_enter Tryd.func25, Tryd.ntmps25
    go_wp2_with fail
    refine (rtwo_any a b _ _ w HA.out HB.out).mono ?_
    rw [HE1.out]
    rintro e w2 ⟨rfl, hb2⟩
    go_wp2_with fail
    go_ret2
    exact ⟨_, rfl, Sl.nil _ _ _ _ _ (Nat.zero_le _), hb2⟩

set_option maxRecDepth 100000 in
set_option maxHeartbeats 1000000 in
theorem ronce_any (l : List Ety) (v : Value) (w : World) (hl : IsEnts w v l) : Calls Tryd.prog 29 #[v] w fun e w' => e = .returned (.tuple #[.bool (onceR l).1, .int .i64 (onceR l).2]) ∧ Below w.heap.size w w' := by
  have HA := Lib.hid hl
  obtain ⟨A, c, rfl, h1, h2, hat⟩ := hl
  have hn := len_i64 h1 h2
  have HL := Lib.hid hat
  clear hat h1 h2
  unfold onceR
  obtain ⟨e1, he1⟩ : ∃ e, ledErr l = e := ⟨_, rfl⟩
  have HE1 := Lib.hid he1
  rw [he1]
  obtain ⟨bb, hbb⟩ : ∃ b, l.any (fun x => x.n != 1) = b := ⟨_, rfl⟩
  have HB := Lib.hid hbb
  rw [hbb]
  clear hbb he1
  by_cases h0 : e1 = 0
  case neg =>
    rw [if_pos h0]
    have h0' : (e1 != 0) = true := by simpa using h0
    go_enter Tryd.func29, Tryd.ntmps29
    go_wp2_with fail
    refine (rlcheck_any l _ w HA.out).mono ?_
    rw [HE1.out]
    rintro e w2 ⟨rfl, hb2⟩
    go_wp2_with fail
    go_ret2
    exact ⟨rfl, hb2⟩
  subst h0
  rw [if_neg (by simp)]
  go_enter Tryd.func29, Tryd.ntmps29
  go_wp2_with fail
  refine (rlcheck_any l _ w HA.out).mono ?_
  rw [HE1.out]
  rintro e w2 ⟨rfl, hb2⟩
  have HB2 := Lib.hid hb2
  go_wp2_with fail
  go_loop [5] (fun i => ∃ k : Nat, k ≤ l.length ∧ i = .int .i64 k ∧ Hid (∀ (j : Nat) (x : Ety), l[j]? = some x → j < k → (x.n != 1) = false)) (fun i => l.length - (intOf i).toNat)
  case atStart => exact ⟨0, Nat.zero_le _, rfl, Lib.hid fun _ _ _ h => absurd h (by omega)⟩
  case round =>
    obtain ⟨k, hk, rfl, hi⟩ := hrel
    by_cases hlt : k < l.length
    · have hk' : (k : Int) < (l.length : Int) := by omega
      obtain ⟨b1, o1, rfl, v', hv', x0, x1, x2⟩ := HL.out k l[k] (List.getElem?_eq_getElem hlt)
      have hget := Lib.hid (List.getElem?_eq_getElem hlt)
      obtain ⟨x, hx⟩ : ∃ x, x = l[k] := ⟨_, rfl⟩
      rw [← hx] at hget x2
      replace x2 := cell_stays HB2.out x2
      clear hx hv' x0 x1
      obtain ⟨g, hg⟩ : ∃ g, (x.n != 1) = g := ⟨_, rfl⟩
      have HG := Lib.hid hg
      cases g with
      | true =>
        have HX : Hid (bb = true) := Lib.hid (by
          rw [← HB.out]
          exact List.any_eq_true.2 ⟨x, List.mem_of_getElem? hget.out, HG.out⟩)
        go_wp2_with fail
        go_ret2
        rw [HX.out]
        exact ⟨rfl, HB2.out⟩
      | false =>
        go_wp2_with fail
        go_round
        case rel =>
          refine ⟨k + 1, by omega, by go_num, Lib.hid ?_⟩
          intro j y hj hjk
          rcases Nat.lt_or_eq_of_le (Nat.le_of_lt_succ hjk) with h | h
          · exact hi.out j y hj h
          · subst h; rw [hget.out] at hj; injection hj with hj; subst hj; exact HG.out
        case measure => simp [intOf]; omega
    · have hk' : ¬ (k : Int) < (l.length : Int) := by omega
      have HX : Hid (bb = false) := Lib.hid (by
        rw [← HB.out, List.any_eq_false]
        intro x hx hg
        obtain ⟨j, hj⟩ := List.mem_iff_getElem?.1 hx
        have := hi.out j x hj (by have := (List.getElem?_eq_some_iff.1 hj).1; omega)
        rw [this] at hg; exact absurd hg (by decide))
      go_wp2_with fail
      go_ret2
      rw [HX.out]
      exact ⟨rfl, HB2.out⟩
end Go.Proofs.YtlofjcicpkfcdaaDoor
