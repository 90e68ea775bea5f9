/- tidegateref17.ShowRef, Format: the text of a match. -/
import Derived.Test.YtclpglgigpjfoaaGreatDoorMrname
import Derived.Test.YtclpglgigpjfoaaGreatDoorMformat
namespace Go.Proofs.YtclpglgigpjfoaaGreatDoor
open Go.RowKit

/-! ### Decimal -/
theorem wrap_in (n : Int) (h : -9223372036854775808 ≤ n ∧ n ≤ 9223372036854775807) : wrap64 n = n := by unfold wrap64; omega
abbrev d10 : ByteArray := ⟨#[48, 49, 50, 51, 52, 53, 54, 55, 56, 57]⟩
theorem digit_piece : ∀ r : Fin 10, d10.extract r.val (r.val + 1) = itoaB (r.val : Int) := by
  intro r
  have : ∀ r : Fin 10, ((d10.extract r.val (r.val + 1)).data.toList == Lib.itoa (r.val : Int)) = true := by decide +kernel
  have h := this r
  rw [beq_iff_eq] at h
  unfold itoaB
  rw [← h]
theorem itoaB_step (n : Nat) (h : 10 ≤ n) : itoaB (n : Int) = itoaB ((n / 10 : Nat) : Int) ++ itoaB ((n % 10 : Nat) : Int) := by
  unfold itoaB
  rw [Lib.itoa_nonneg, Lib.itoa_nonneg, Lib.itoa_nonneg]
  conv => lhs; rw [Lib.decDigits, dif_neg (by omega)]
  rw [Lib.decDigits_one (i := n % 10) (by omega)]
  apply ByteArray.ext
  simp
set_option maxRecDepth 100000 in
set_option maxHeartbeats 1000000 in
theorem rdecimal_any (n : Nat) : ∀ (w : World), n ≤ 1099511627776 → Calls Tryz.prog 101 #[.int .i64 (n : Int)] w fun e w' => e = .returned (.string (itoaB (n : Int))) ∧ Below w.heap.size w w' := by
  induction n using Nat.strongRecOn with
  | _ n ih =>
    intro w hn
    have h0 : ¬ (n : Int) < 0 := by omega
    by_cases h : n < 10
    · have h' : (n : Int) < 10 := by omega
      have hs : ∀ W, (Instr.slice 9 (.string d10) (some (.int .i64 (n : Int))) (some (.int .i64 ((n : Int) + 1))) none).run Tryz.prog W = .ok (.string (itoaB (n : Int))) W := fun W => by
        rw [run_slice_string W 9 d10 .i64 .i64 (n : Int) ((n : Int) + 1) Tryz.underlying9 (by omega) (by omega) (by simp [ByteArray.size]; omega)]
        have := digit_piece ⟨n, h⟩
        simp only at this
        rw [← this]
        rfl
      go_enter Tryz.func101, Tryz.ntmps101
      go_wp2_with fail
      go_ret
      exact ⟨rfl, Below.refl _ _⟩
    · have h' : ¬ (n : Int) < 10 := by omega
      obtain ⟨q, hq⟩ : ∃ q, n / 10 = q := ⟨_, rfl⟩
      obtain ⟨r, hr⟩ : ∃ r, n % 10 = r := ⟨_, rfl⟩
      have IH : Hid (∀ W, Calls Tryz.prog 101 #[.int .i64 (wrap64 (q : Int))] W fun e w' => e = .returned (.string (itoaB (q : Int))) ∧ Below W.heap.size W w') := Lib.hid (fun W : World => by rw [wrap_in (q : Int) (by omega)]; exact ih q (by omega) W (by omega))
      have hst := itoaB_step n (by omega)
      rw [hq, hr] at hst
      have HST := Lib.hid hst
      clear hst ih
      go_enter Tryz.func101, Tryz.ntmps101
      have hq' : Int.tdiv (n : Int) 10 = (q : Int) := by rw [← hq, Int.tdiv_eq_ediv_of_nonneg (by omega)]; rfl
      have hr' : Int.tmod (n : Int) 10 = (r : Int) := by rw [← hr, Int.tmod_eq_emod_of_nonneg (by omega)]; rfl
      have hs : ∀ W, (Instr.slice 9 (.string d10) (some (.int .i64 (r : Int))) (some (.int .i64 ((r : Int) + 1))) none).run Tryz.prog W = .ok (.string (itoaB (r : Int))) W := fun W => by
        rw [run_slice_string W 9 d10 .i64 .i64 (r : Int) ((r : Int) + 1) Tryz.underlying9 (by omega) (by omega) (by simp [ByteArray.size]; omega)]
        have := digit_piece ⟨r, by omega⟩
        simp only at this
        rw [← this]
        rfl
      have q1 := itoaB_size (q : Int) (by omega) (by omega)
      have q2 := itoaB_size (r : Int) (by omega) (by omega)
      obtain ⟨s1, a1, b1, r1⟩ := cat_ex Tryz.prog (itoaB (q : Int)) (itoaB (r : Int)) 100 q1 q2 (by decide)
      have hs1 : itoaB (n : Int) = s1 := by rw [HST.out, a1]
      rw [hs1]
      have hr10 : (r : Int) + 1 ≤ 9223372036854775807 := by omega
      clear hq hr a1 b1 q1 q2 hs1 HST
      go_wp2_with fail
      refine wp_region_F (fun _ => True) (by repeat (first | exact grows_cell _ _ _ | exact grows_true | refine grows_and ?_ ?_)) (by kernel_rfl) (by kernel_rfl) ?hF ?_; (case hF => (first | exact ⟨‹_›, ‹_›⟩ | (go_simp; done) | (simp [*]; done) | (repeat' (first | (refine And.intro ?_ ?_) | (go_simp; done) | exact cell_stays (bel_al (Below.refl _ _) _) (by assumption) | assumption)))); intro hne hxx; have hG : Hid (Grows (fun _ => True)) := (by repeat (first | exact grows_cell _ _ _ | exact grows_true | refine grows_and ?_ ?_)); (repeat (go_big_quiet_step ((go_at_call 101; exact cls_callB hG (fun W _ => IH.out W))))); clear hG hxx hne; refine wpQuiet_nil ?_; rintro wq ⟨⟨w', hb', hF'⟩, rfl⟩
      clear hF'
      go_wp2_with fail
      go_ret
      exact ⟨rfl, hb'⟩
def refB (t s n : Int) : ByteArray := itoaB t ++ slash ++ itoaB s ++ slash ++ itoaB n
theorem textB_eq (nm : ByteArray) (b : Bnd) : textB nm b = nm ++ atSign ++ refB b.t b.s b.n := by
  unfold textB refB
  apply ByteArray.ext
  simp [ByteArray.data_append, Array.append_assoc]
theorem cat_le (P : Program) (a b : ByteArray) (m n : Nat) (ha : a.size ≤ m) (hb : b.size ≤ n) (hm : m + n ≤ 9223372036854775807) : ∃ s, s = a ++ b ∧ s.size ≤ m + n ∧ ∀ W, (Op.stringOp .add a b).run P W = .ok (.string s) W :=
  ⟨a ++ b, rfl, by rw [ByteArray.size_append]; omega, fun W => run_string_add_sum W a b (by omega)⟩
theorem refB_size {t s n : Int} (h1 : 0 ≤ t ∧ t ≤ 1099511627776) (h2 : 0 ≤ s ∧ s ≤ 1099511627776) (h3 : 0 ≤ n ∧ n ≤ 1099511627776) : (refB t s n).size ≤ 302 := by
  have q1 := itoaB_size t (by omega) (by omega)
  have q2 := itoaB_size s (by omega) (by omega)
  have q3 := itoaB_size n (by omega) (by omega)
  unfold refB
  simp only [ByteArray.size_append]
  have e2 : slash.size = 1 := rfl
  omega

set_option maxRecDepth 100000 in
set_option maxHeartbeats 1000000 in
theorem rshow_any (t s n : Int) (w : World) (h1 : 0 ≤ t ∧ t ≤ 1099511627776) (h2 : 0 ≤ s ∧ s ≤ 1099511627776) (h3 : 0 ≤ n ∧ n ≤ 1099511627776) :
    Calls Tryz.prog 73 #[.agg #[.int .i64 t, .int .i64 s, .int .i64 n]] w fun e w' => e = .returned (.string (refB t s n)) ∧ Below w.heap.size w w' := by
  have dec : ∀ n : Int, 0 ≤ n ∧ n ≤ 1099511627776 → ∀ W, Calls Tryz.prog 101 #[.int .i64 n] W fun e w' => e = .returned (.string (itoaB n)) ∧ Below W.heap.size W w' := fun n h W => by
    obtain ⟨m, rfl⟩ : ∃ m : Nat, n = (m : Int) := ⟨n.toNat, by omega⟩
    exact rdecimal_any m W (by omega)
  have DEC := Lib.hid dec
  have k1 := Lib.hid h1
  have k2 := Lib.hid h2
  have k3 := Lib.hid h3
  have q1 := itoaB_size t (by omega) (by omega)
  have q2 := itoaB_size s (by omega) (by omega)
  have q3 := itoaB_size n (by omega) (by omega)
  obtain ⟨s1, a1, b1, r1⟩ := cat_ex Tryz.prog (itoaB t) ⟨#[47]⟩ 100 q1 (by decide) (by decide)
  obtain ⟨s2, a2, b2, r2⟩ := cat_ex Tryz.prog s1 (itoaB s) _ b1 q2 (by decide)
  obtain ⟨s3, a3, b3, r3⟩ := cat_ex Tryz.prog s2 ⟨#[47]⟩ _ b2 (by decide) (by decide)
  obtain ⟨s4, a4, b4, r4⟩ := cat_ex Tryz.prog s3 (itoaB n) _ b3 q3 (by decide)
  have hs : refB t s n = s4 := by unfold refB slash; rw [a4, a3, a2, a1]
  rw [hs]
  clear dec h1 h2 h3 q1 q2 q3 a1 a2 a3 a4 b1 b2 b3 b4 hs
  go_enter Tryz.func73, Tryz.ntmps73
  go_wp2_with fail
  refine wp_region_F (fun W => W.cell? ⟨w.heap.size, 0, none⟩ = some (.int .i64 t) ∧ W.cell? ⟨w.heap.size, 1, none⟩ = some (.int .i64 s) ∧ W.cell? ⟨w.heap.size, 2, none⟩ = some (.int .i64 n)) (by repeat (first | exact grows_cell _ _ _ | exact grows_true | refine grows_and ?_ ?_)) (by kernel_rfl) (by kernel_rfl) ?hF ?_; (case hF => (first | exact ⟨‹_›, ‹_›⟩ | (go_simp; done) | (simp [*]; done) | (repeat' (first | (refine And.intro ?_ ?_) | (go_simp; done) | exact cell_stays (bel_al (Below.refl _ _) _) (by assumption) | assumption)))); intro hne hxx; have hG : Hid (Grows (fun W => W.cell? ⟨w.heap.size, 0, none⟩ = some (.int .i64 t) ∧ W.cell? ⟨w.heap.size, 1, none⟩ = some (.int .i64 s) ∧ W.cell? ⟨w.heap.size, 2, none⟩ = some (.int .i64 n))) := (by repeat (first | exact grows_cell _ _ _ | exact grows_true | refine grows_and ?_ ?_)); (repeat (go_big_quiet_step ((go_at_call 101; exact cls_callB hG (fun W _ => DEC.out _ (by first | exact k1.out | exact k2.out | exact k3.out) W))))); clear hG hxx hne; refine wpQuiet_nil ?_; rintro wq ⟨⟨w', hb', hF'⟩, rfl⟩
  clear hF'
  go_wp2_with fail
  go_ret
  exact ⟨rfl, bel_tr (bel_one _ _) hb'⟩

theorem joinB_one (x : ByteArray) : joinB [x] = x := by
  unfold joinB
  apply ByteArray.ext
  simp [Lib.join_cons, Lib.joinTail]
theorem joinB_snoc {l : List ByteArray} (h : l ≠ []) (x : ByteArray) : joinB (l ++ [x]) = joinB l ++ ⟨#[32]⟩ ++ x := by
  cases l with
  | nil => exact absurd rfl h
  | cons y l =>
    unfold joinB
    apply ByteArray.ext
    simp [Lib.join_cons, Lib.joinTail]
/-- the text of the first k bindings -/
def outB (vs : List Nv) (bs : List Bnd) (k : Nat) : ByteArray := joinB (((bs.take k).map (partE vs)).map (·.1))
theorem outB_0 (vs : List Nv) (bs : List Bnd) : outB vs bs 0 = noText := by
  unfold outB joinB noText
  simp [Lib.join_nil]
theorem outB_1 {vs : List Nv} {bs : List Bnd} {x : Bnd} (hx : bs[0]? = some x) : outB vs bs 1 = (partE vs x).1 := by
  unfold outB
  rw [take_snoc hx]
  simp [joinB_one]
theorem outB_next {vs : List Nv} {bs : List Bnd} {x : Bnd} {k : Nat} (hx : bs[k]? = some x) (hk : 0 < k) : outB vs bs (k + 1) = outB vs bs k ++ ⟨#[32]⟩ ++ (partE vs x).1 := by
  unfold outB
  rw [take_snoc hx, List.map_append, List.map_append]
  have hl := (List.getElem?_eq_some_iff.1 hx).1
  refine joinB_snoc (fun e => ?_) _
  have h2 := congrArg List.length e
  rw [List.length_map, List.length_map, List.length_take, List.length_nil] at h2
  omega
theorem firstE_take {vs : List Nv} {bs : List Bnd} {k : Nat} {x : Bnd} {e : Int} (ha : ∀ b ∈ bs.take k, (partE vs b).2 = 0) (hx : bs[k]? = some x) (he : (partE vs x).2 = e) (h0 : e ≠ 0) : firstE (bs.map (partE vs)) = e := by
  refine firstE_stop (p := (bs.take k).map (partE vs)) (t := (partE vs x).1) ?_ ?_ h0
  · rw [← he]
    refine ⟨(bs.drop (k + 1)).map (partE vs), ?_⟩
    have h : bs = bs.take k ++ x :: bs.drop (k + 1) := by
      obtain ⟨hk, rfl⟩ := List.getElem?_eq_some_iff.1 hx
      rw [List.getElem_cons_drop, List.take_append_drop]
    conv => rhs; rw [h]
    simp
  · intro y hy
    obtain ⟨b, hb, rfl⟩ := List.mem_map.1 hy
    exact ha b hb

set_option maxRecDepth 100000 in
set_option maxHeartbeats 4000000 in
theorem rformat_any (vs : List Nv) (bs : List Bnd) (v vv : Value) (w : World) (hl : IsBnds w v bs) (hv : IsNvs w vv vs) (hnm : ∀ v ∈ vs, v.name.data.toList.length ≤ 100) (hlen : bs.length ≤ 100) :
    Calls Tryz.prog 28 #[vv, matV v] w (FmtRet w (formatR vs bs)) := by
  unfold FmtRet
  have HCK := Lib.hid (fun (W : World) (hb : Below w.heap.size w W) => rmcheck_any bs v W (hl.stays bndAt_stays hb))
  obtain ⟨A, c, rfl, h1, h2, hat⟩ := hl
  have hn := len_i64 h1 h2
  have HAT := Lib.hid hat
  clear h1 h2 hat
  obtain ⟨Av, cv, rfl, g1, g2, hvt⟩ := hv
  have hnv := len_i64 g1 g2
  have HVT := Lib.hid hvt
  clear g1 g2 hvt
  obtain ⟨er, her⟩ : ∃ er, matErr bs = er := ⟨_, rfl⟩
  rw [her] at HCK
  have HER := Lib.hid her
  have HNM := Lib.hid hnm
  clear her hnm
  unfold matV
  unfold matV at HCK
  by_cases her0 : er = 0
  case neg =>
    have HSP := Lib.hid (formatR_bad (vs := vs) HER.out her0)
    rw [HSP.out]
    unfold noText
    go_enter Tryz.func28, Tryz.ntmps28
    go_wp2_with (go_at_call 15; refine calls_gen fun W9 e9 => ?_; have hb9 : Below w.heap.size w W9 := (by rw [e9]; exact (by repeat (first | exact Below.refl _ _ | assumption | refine Below.drew ?_ | refine bel_al ?_ _ | refine bel_set ?_ (by omega) _ | refine bel_tr ?_ (by assumption)))); clear e9; refine (HCK.out _ hb9).mono ?_; rintro e w1 ⟨rfl, hb1⟩; have HB1 := Lib.hid (bel_tr hb9 hb1); clear hb9 hb1)
    go_returns
    exact ⟨rfl, HB1.out⟩
  subst her0
  obtain ⟨-, -, hok⟩ := mat_ok HER.out
  have HOK := Lib.hid hok
  clear hok
  obtain ⟨RS, hRS⟩ : ∃ RS, formatR vs bs = RS := ⟨_, rfl⟩
  have HRS := Lib.hid hRS
  rw [hRS]
  clear hRS
  go_enter Tryz.func28, Tryz.ntmps28
  go_wp2_with (go_at_call 15; refine calls_gen fun W9 e9 => ?_; have hb9 : Below w.heap.size w W9 := (by rw [e9]; exact (by repeat (first | exact Below.refl _ _ | assumption | refine Below.drew ?_ | refine bel_al ?_ _ | refine bel_set ?_ (by omega) _ | refine bel_tr ?_ (by assumption)))); have y0 : W9.cell? ⟨w.heap.size, 0, none⟩ = some (.slice A bs.length c) := (by rw [e9]; go_simp); clear e9; refine (HCK.out _ hb9).mono ?_; rintro e w1 ⟨rfl, hb1⟩; replace y0 := cell_stays hb1 y0; have hb91 := bel_tr hb9 hb1; clear hb9 hb1)
  obtain ⟨M, hM⟩ : ∃ M, M = w.heap.size := ⟨_, rfl⟩
  have hMw : M < w1.heap.size := World.block_lt_of_cell? w1 ⟨M, 0, none⟩ (by rw [hM]; exact y0)
  rw [← hM] at y0 ⊢
  have HY0 := Lib.hid y0
  have HB91 := Lib.hid hb91
  have HM := Lib.hid hM
  clear y0 hb91 hM
  go_loopw [7, 8] (fun o i wr => ∃ (k : Nat) (out : ByteArray), k ≤ bs.length ∧ i = .int .i64 k ∧ o = .string out ∧ out.size ≤ k * 1000 ∧ Hid (out = outB vs bs k ∧ ∀ b ∈ bs.take k, (partE vs b).2 = 0) ∧ Below w1.heap.size w1 wr) (fun _ i _ => bs.length - (intOf i).toNat)
  case atStart => exact ⟨0, _, Nat.zero_le _, rfl, rfl, by simp [ByteArray.size], Lib.hid ⟨(outB_0 vs bs).symm, by simp⟩, Below.refl _ _⟩
  case round =>
    obtain ⟨k, out, hk, rfl, rfl, hsz, hI, hb⟩ := hrel
    have y0 := cell_stays hb HY0.out
    by_cases hlt : k < bs.length
    · have hk' : (k : Int) < (bs.length : Int) := by omega
      obtain ⟨b, o, rfl, c0, c1, c2, c3⟩ := HAT.out k bs[k] (List.getElem?_eq_getElem hlt)
      have hget := Lib.hid (List.getElem?_eq_getElem hlt)
      have hmem := HOK.out bs[k] (List.getElem_mem hlt)
      obtain ⟨x, hx⟩ : ∃ x, x = bs[k] := ⟨_, rfl⟩
      rw [← hx] at hget hmem c0 c1 c2 c3
      have hb0 := bel_tr HB91.out hb
      replace c0 := cell_stays hb0 c0
      replace c1 := cell_stays hb0 c1
      replace c2 := cell_stays hb0 c2
      replace c3 := cell_stays hb0 c3
      have hv := bndOk_v hmem
      have hplx : (0 ≤ x.t ∧ x.t ≤ 1099511627776) ∧ (0 ≤ x.s ∧ x.s ≤ 7) ∧ 0 ≤ x.n ∧ x.n ≤ 1099511627776 := by
        unfold bndOk plB inI at hmem
        simp only [Bool.and_eq_true, decide_eq_true_eq] at hmem
        omega
      clear hx hmem
      have hMr : M < wr.heap.size := by have := hb.size; omega
      by_cases hvlt : x.v < (vs.length : Int)
      · obtain ⟨j, hj⟩ : ∃ j : Nat, x.v = (j : Int) := ⟨x.v.toNat, by omega⟩
        have hjl : j < vs.length := by omega
        obtain ⟨bv, ov, rfl, d0, -⟩ := HVT.out j vs[j] (List.getElem?_eq_getElem hjl)
        have hnml := HNM.out vs[j] (List.getElem_mem hjl)
        have hnv2 : nvOf vs x = vs[j] := by unfold nvOf; rw [hj]; simp [List.getD_eq_getElem?_getD, hjl]
        obtain ⟨y, hy⟩ : ∃ y, y = vs[j] := ⟨_, rfl⟩
        rw [← hy] at d0 hnml hnv2
        clear hy
        replace d0 := cell_stays hb0 d0
        have hbvl : bv < wr.heap.size := World.block_lt_of_cell? wr ⟨bv, _, none⟩ d0
        have hnbv : bv ≠ wr.heap.size := by omega
        have hnbv' : wr.heap.size ≠ bv := by omega
        rw [hj] at c0 hvlt hv
        have hge : ¬ (vs.length : Int) ≤ x.v := by omega
        have HNE : Hid (∀ W, Calls Tryz.prog 72 #[.string y.name] W fun e w' => e = .returned (.int .i64 (nameE y.name.data.toList)) ∧ W = w') := Lib.hid (fun W => rname_any y.name.data.toList W (by omega))
        obtain ⟨en, hen⟩ : ∃ en, nameE y.name.data.toList = en := ⟨_, rfl⟩
        rw [hen] at HNE
        by_cases hen0 : en = 0
        · subst hen0
          have HPE : Hid (partE vs x = (textB y.name x, 0)) := Lib.hid (by unfold partE; rw [if_neg hge, hnv2, if_neg (by simp [hen])])
          have HSH := Lib.hid (fun W : World => rshow_any x.t x.s x.n W hplx.1 (by omega) hplx.2.2)
          have q := refB_size (t := x.t) (s := x.s) (n := x.n) hplx.1 (by omega) hplx.2.2
          have qn : y.name.size ≤ 100 := by have := hnml; simpa using this
          obtain ⟨s1, a1, b1, r1⟩ := cat_ex Tryz.prog y.name ⟨#[64]⟩ 100 qn (by decide) (by decide)
          obtain ⟨s2, a2, b2, r2⟩ := cat_le Tryz.prog s1 (refB x.t x.s x.n) _ _ b1 q (by decide)
          clear hplx hnml q qn hen hge hnv2 hv hb0
          have hk100 : k ≤ 100 := by omega
          rcases Nat.eq_zero_or_pos k with hk0 | hk0
          · obtain ⟨s3, a3, b3, r3⟩ := cat_le Tryz.prog out s2 (k * 1000) _ hsz b2 (by omega)
            have hs3 : Hid (s3 = outB vs bs (k + 1)) := Lib.hid (by
              subst hk0
              rw [outB_1 hget.out, HPE.out, a3, a2, a1, textB_eq]
              have h0 := hI.out.1
              rw [outB_0] at h0
              rw [h0]
              apply ByteArray.ext
              simp [noText])
            have hk0' : ¬ (0 : Int) < (k : Int) := by omega
            have hall : Hid (∀ b ∈ bs.take (k + 1), (partE vs b).2 = 0) := Lib.hid (by
              rw [take_snoc hget.out]
              intro z hz
              rcases List.mem_append.1 hz with hz | hz
              · exact hI.out.2 z hz
              · simp at hz; subst hz; rw [HPE.out])
            have hsz3 : s3.size ≤ (k + 1) * 1000 := by omega
            clear hsz a1 a2 a3 b1 b2 b3 hk0
            go_wp2_with (go_at_call 72; refine (HNE.out _).mono ?_; rintro e w3 ⟨rfl, rfl⟩)
            refine wp_region_F (fun W => W.cell? ⟨bv, ov + j * 2, none⟩ = some (.string y.name) ∧ W.cell? ⟨wr.heap.size, 0, none⟩ = some (.int .i64 (j : Int)) ∧ W.cell? ⟨wr.heap.size, 1, none⟩ = some (.int .i64 x.t) ∧ W.cell? ⟨wr.heap.size, 2, none⟩ = some (.int .i64 x.s) ∧ W.cell? ⟨wr.heap.size, 3, none⟩ = some (.int .i64 x.n)) (by repeat (first | exact grows_cell _ _ _ | exact grows_true | refine grows_and ?_ ?_)) (by kernel_rfl) (by kernel_rfl) ?hF ?_; (case hF => (first | exact ⟨‹_›, ‹_›⟩ | (go_simp; done) | (simp [*]; done) | (repeat' (first | (refine And.intro ?_ ?_) | (go_simp; done) | exact cell_stays (bel_al (Below.refl _ _) _) (by assumption) | assumption)))); intro hne hxx; have hG : Hid (Grows (fun W => W.cell? ⟨bv, ov + j * 2, none⟩ = some (.string y.name) ∧ W.cell? ⟨wr.heap.size, 0, none⟩ = some (.int .i64 (j : Int)) ∧ W.cell? ⟨wr.heap.size, 1, none⟩ = some (.int .i64 x.t) ∧ W.cell? ⟨wr.heap.size, 2, none⟩ = some (.int .i64 x.s) ∧ W.cell? ⟨wr.heap.size, 3, none⟩ = some (.int .i64 x.n))) := (by repeat (first | exact grows_cell _ _ _ | exact grows_true | refine grows_and ?_ ?_)); (repeat (go_big_quiet_step ((go_at_call 73; exact cls_callB hG (fun W _ => HSH.out W))))); clear hG hxx hne; refine wpQuiet_nil ?_; rintro wq ⟨⟨w', hb', hF'⟩, rfl⟩
            clear hF'
            have HB5 := Lib.hid (bel_tr (bel_tr hb (bel_one wr _)) hb')
            clear hb'
            go_wp2_with fail
            go_roundw
            case rel => exact ⟨k + 1, s3, by omega, by go_num, rfl, hsz3, Lib.hid ⟨hs3.out, hall.out⟩, HB5.out⟩
            case measure => simp [intOf]; omega
          · obtain ⟨s0, a0, b0, r0⟩ := cat_le Tryz.prog out ⟨#[32]⟩ (k * 1000) 1 hsz (by decide) (by omega)
            obtain ⟨s3, a3, b3, r3⟩ := cat_le Tryz.prog s0 s2 _ _ b0 b2 (by omega)
            have hs3 : Hid (s3 = outB vs bs (k + 1)) := Lib.hid (by
              rw [outB_next hget.out hk0, HPE.out, a3, a2, a1, a0, textB_eq, hI.out.1])
            have hk0' : (0 : Int) < (k : Int) := by omega
            have hall : Hid (∀ b ∈ bs.take (k + 1), (partE vs b).2 = 0) := Lib.hid (by
              rw [take_snoc hget.out]
              intro z hz
              rcases List.mem_append.1 hz with hz | hz
              · exact hI.out.2 z hz
              · simp at hz; subst hz; rw [HPE.out])
            have hsz3 : s3.size ≤ (k + 1) * 1000 := by omega
            clear hsz a1 a2 a3 b1 b2 b3 hk0 a0 b0
            go_wp2_with (go_at_call 72; refine (HNE.out _).mono ?_; rintro e w3 ⟨rfl, rfl⟩)
            refine wp_region_F (fun W => W.cell? ⟨bv, ov + j * 2, none⟩ = some (.string y.name) ∧ W.cell? ⟨wr.heap.size, 0, none⟩ = some (.int .i64 (j : Int)) ∧ W.cell? ⟨wr.heap.size, 1, none⟩ = some (.int .i64 x.t) ∧ W.cell? ⟨wr.heap.size, 2, none⟩ = some (.int .i64 x.s) ∧ W.cell? ⟨wr.heap.size, 3, none⟩ = some (.int .i64 x.n)) (by repeat (first | exact grows_cell _ _ _ | exact grows_true | refine grows_and ?_ ?_)) (by kernel_rfl) (by kernel_rfl) ?hF ?_; (case hF => (first | exact ⟨‹_›, ‹_›⟩ | (go_simp; done) | (simp [*]; done) | (repeat' (first | (refine And.intro ?_ ?_) | (go_simp; done) | exact cell_stays (bel_al (Below.refl _ _) _) (by assumption) | assumption)))); intro hne hxx; have hG : Hid (Grows (fun W => W.cell? ⟨bv, ov + j * 2, none⟩ = some (.string y.name) ∧ W.cell? ⟨wr.heap.size, 0, none⟩ = some (.int .i64 (j : Int)) ∧ W.cell? ⟨wr.heap.size, 1, none⟩ = some (.int .i64 x.t) ∧ W.cell? ⟨wr.heap.size, 2, none⟩ = some (.int .i64 x.s) ∧ W.cell? ⟨wr.heap.size, 3, none⟩ = some (.int .i64 x.n))) := (by repeat (first | exact grows_cell _ _ _ | exact grows_true | refine grows_and ?_ ?_)); (repeat (go_big_quiet_step ((go_at_call 73; exact cls_callB hG (fun W _ => HSH.out W))))); clear hG hxx hne; refine wpQuiet_nil ?_; rintro wq ⟨⟨w', hb', hF'⟩, rfl⟩
            clear hF'
            have HB5 := Lib.hid (bel_tr (bel_tr hb (bel_one wr _)) hb')
            clear hb'
            go_wp2_with fail
            go_roundw
            case rel => exact ⟨k + 1, s3, by omega, by go_num, rfl, hsz3, Lib.hid ⟨hs3.out, hall.out⟩, HB5.out⟩
            case measure => simp [intOf]; omega
        · have HPE : Hid ((partE vs x).2 = 8) := Lib.hid (by
            unfold partE
            rw [if_neg hge, hnv2, if_pos (by rw [hen]; exact hen0)])
          have h8 : en = 8 := by
            rw [← hen]
            unfold nameE
            split
            · rename_i h; exact absurd (by rw [← hen]; unfold nameE; rw [if_pos h]) hen0
            · rfl
          subst h8
          have hr : RS = (⟨#[]⟩, 8) := by rw [← HRS.out]; exact formatR_err HER.out (firstE_take hI.out.2 hget.out HPE.out (by decide)) (by decide)
          subst hr
          clear hplx hnml hen hge hnv2 hen0
          go_wp2_with (go_at_call 72; refine (HNE.out _).mono ?_; rintro e w3 ⟨rfl, rfl⟩)
          go_returns
          exact ⟨rfl, bel_al hb0 _⟩
      · have hge : (vs.length : Int) ≤ x.v := by omega
        have HPE : Hid ((partE vs x).2 = 10) := Lib.hid (by unfold partE; rw [if_pos hge])
        have hr : RS = (⟨#[]⟩, 10) := by rw [← HRS.out]; exact formatR_err HER.out (firstE_take hI.out.2 hget.out HPE.out (by decide)) (by decide)
        subst hr
        clear hplx
        go_wp2_with fail
        go_returns
        exact ⟨rfl, bel_al hb0 _⟩
    · have hk' : ¬ (k : Int) < (bs.length : Int) := by omega
      have hke : k = bs.length := by omega
      have hr : RS = (out, 0) := by
        rw [← HRS.out, hI.out.1, hke]
        have h2 := hI.out.2
        rw [List.take_of_length_le (by omega)] at h2
        rw [formatR_ok HER.out (firstE_none (fun z hz => by obtain ⟨b, hb, rfl⟩ := List.mem_map.1 hz; exact h2 b hb))]
        unfold outB
        rw [List.take_of_length_le (by omega)]
      subst hr
      clear hke
      go_wp2_with fail
      go_returns
      exact ⟨rfl, bel_tr HB91.out hb⟩
end Go.Proofs.YtclpglgigpjfoaaGreatDoor
