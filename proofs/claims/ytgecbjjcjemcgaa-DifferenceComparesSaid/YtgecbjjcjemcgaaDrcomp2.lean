/- Inside and Meet of the reference. -/
import Derived.Test.YtgecbjjcjemcgaaDrcomp
namespace Go.Proofs.Ytgecbjjcjemcgaa
open Go.RowKit

theorem all_no {α : Type} {p : α → Bool} {l : List α} {k : Nat} {x : α} (h : l[k]? = some x) (hp : p x = false) : l.all p = false := by
  rw [List.all_eq_false]
  exact ⟨x, List.mem_of_getElem? h, by simp [hp]⟩
theorem all_yes {α : Type} {p : α → Bool} {l : List α} (h : ∀ (j : Nat) (x : α), l[j]? = some x → p x = true) : l.all p = true := by
  rw [List.all_eq_true]
  intro x hx
  obtain ⟨j, hj⟩ := List.mem_iff_getElem?.1 hx
  exact h j x hj

theorem step_if {c : Prop} [Decidable c] {t e : Prop} (hc : c) (h : t) : if c then t else e := by rw [if_pos hc]; exact h
theorem at_app {P : Program} (w : World) {o : Oper} {a : Act} {K : Act → World → Prop} {Q : Exit → Act → World → Prop} (s x : Operand) (t : TypeId)
    (ho : o.op = .call { callee := .builtin .append, args := #[s, x], argTypes := #[t, t] })
    (base : Nat) (e : TypeId) (i : TypeInfo) (z : Value) (size bytes : Nat) (ht : P.underlying t = some (.slice e)) (hi : P.info? e = some i) (hz : i.zero = some z)
    (hsize : i.size = size) (hby : i.bytes = bytes) (hzs : z.cells.size = size) (hsz : 0 < size)
    (v : Value) (n : Nat) (xs : List Value) (hs : a.eval s = v) (hown : w.ownsRow base e size v n xs)
    (A : Option Addr) (m c : Nat) (news : List Value) (hx : a.eval x = .slice A m c) (hsrc : Src w A m size news)
    (h63 : n + m ≤ maxLen) (hbytes : (n + m) * bytes ≤ 140737488355328) (hbase : base ≤ w.heap.size)
    (h : ∀ v' w', w'.ownsRow base e size v' (n + m) (xs ++ news) → w.grownBy w' v.ownBlock → (v'.ownBlock = v.ownBlock ∨ v'.ownBlock = some w.heap.size) → K (a.put o.dst v') w') :
    Oper.wp P o a w K Q := by
  obtain ⟨v', w', hrun, h2, h3, h4⟩ := run_app (P := P) w base t o.type e i z size bytes ht hi hz hsize hby hzs hsz v n xs hown A m c news hsrc h63 hbytes hbase
  unfold Oper.wp execOp
  simp only [ho, resolve, invoke, builtin, Sem.run_bind, Sem.run_pure, Result.andThen_ok, List.map_toArray, List.map_cons, List.map_nil, hs, hx, hrun]
  exact h v' w' h2 h3 h4


theorem keep2 {w W : World} {p1 p2 : Nat × Nat} {v1 v2 : Value} (hb : Below w.heap.size w W) (h : w.cell? ⟨p1.1, p1.2, none⟩ = some v1 ∧ w.cell? ⟨p2.1, p2.2, none⟩ = some v2) :
    W.cell? ⟨p1.1, p1.2, none⟩ = some v1 ∧ W.cell? ⟨p2.1, p2.2, none⟩ = some v2 :=
  ⟨cell_stays hb h.1, cell_stays hb h.2⟩

set_option maxRecDepth 100000 in
set_option maxHeartbeats 2000000 in
theorem rinside_any (na : Int) (hn6 : na ≤ 6) (xs : List Bd) (nb : Int) (bs : List Bd) (va vb : Value) (w : World) (ha : IsBds w va xs) (hb : IsBds w vb bs) :
    Calls Try.prog 38 #[zoneV na va, zoneV nb vb] w fun e W => e = .returned (.tuple #[.bool (insideR na xs nb bs).1, .int .i64 (insideR na xs nb bs).2]) ∧ Below w.heap.size w W := by
  unfold zoneV
  have HA := Lib.hid ha
  have HB := Lib.hid hb
  obtain ⟨A, ca, rfl, -, -, -⟩ := ha
  obtain ⟨B, cb, rfl, k1, k2, hat⟩ := hb
  have hn := len_i64 k1 k2
  have HAT := Lib.hid hat
  clear k1 k2 hat
  obtain ⟨e0, he0⟩ : ∃ e, bothErr na xs nb bs = e := ⟨_, rfl⟩
  have HE0 := Lib.hid he0
  by_cases h0 : e0 = 0
  · have g0 : (e0 != 0) = false := by simpa using h0
    obtain ⟨hz1, hz2, hnn⟩ := bothErr_ok (he0.trans h0)
    obtain ⟨hn1, -, hlen, hgood⟩ := good_of hz1
    have hgb := (good_of hz2).2.2.2
    subst hnn
    obtain ⟨N, rfl⟩ := Int.eq_ofNat_of_zero_le (by omega : 0 ≤ na)
    rw [Int.toNat_natCast] at hgood hgb
    have HR : Hid (insideR N xs N bs = (bs.all (hasB N xs), 0)) := Lib.hid (by unfold insideR; rw [if_pos (he0.trans h0), Int.toNat_natCast])
    have HG := Lib.hid hgood
    have HGB := Lib.hid hgb
    clear he0 h0 hgood hgb hz1 hz2
    rw [HR.out]
    go_enter Try.func38, Try.ntmps38
    go_wp2_with (go_at_call 67; refine (rtwo_any N xs N bs _ _ _ (HA.out.stays bdAt_stays (bel_al (bel_one _ _) _)) (HB.out.stays bdAt_stays (bel_al (bel_one _ _) _))).mono ?_; rw [HE0.out]; rintro e w1 ⟨rfl, hb1⟩; obtain ⟨hz, hr, hrf, hbw, hsz⟩ := two_cells hb1; have a0 : w1.cell? ⟨w.heap.size, 0, none⟩ = some (.int .i64 (N : Int)) := hz 0; have a1 : w1.cell? ⟨w.heap.size, 1, none⟩ = some (.slice A xs.length ca) := hz 1; have b1 : w1.cell? ⟨w.heap.size + 1, 1, none⟩ = some (.slice B bs.length cb) := hr 1; clear hb1 hrf hz hr)
    go_loopw [7] (fun i wr => ∃ k : Nat, k ≤ bs.length ∧ i = .int .i64 k ∧ Hid (∀ (j : Nat) (x : Bd), bs[j]? = some x → j < k → hasB N xs x = true) ∧ Below w1.heap.size w1 wr) (fun i _ => bs.length - (intOf i).toNat)
    case atStart => exact ⟨0, Nat.zero_le _, rfl, fun _ _ _ h => absurd h (by omega), Below.refl _ _⟩
    case round =>
      obtain ⟨k, hk, rfl, hi, hb⟩ := hrel
      replace a0 := cell_stays hb a0
      replace a1 := cell_stays hb a1
      replace b1 := cell_stays hb b1
      by_cases hlt : k < bs.length
      · have hk' : (k : Int) < (bs.length : Int) := by omega
        have hget := List.getElem?_eq_getElem hlt
        obtain ⟨x, hx⟩ : ∃ x, x = bs[k] := ⟨_, rfl⟩
        rw [← hx] at hget
        have hgx := HGB.out x (by rw [hx]; exact List.getElem_mem hlt)
        have HIN : Hid (inB N x) := Lib.hid ⟨hgx.1, hgx.2.1, hgx.2.2.1, hgx.2.2.2.1⟩
        have HGET := Lib.hid hget
        obtain ⟨gb, ob, rfl, p0, p1, p2⟩ := HAT.out k x hget
        replace p0 := cell_stays (bel_tr hbw hb) p0
        replace p1 := cell_stays (bel_tr hbw hb) p1
        replace p2 := cell_stays (bel_tr hbw hb) p2
        obtain ⟨r, hr⟩ : ∃ r, hasB N xs x = r := ⟨_, rfl⟩
        have HH := Lib.hid hr
        clear hget hx hgx hr
        have HBW := Lib.hid (bel_tr hbw hb)
        cases r with
        | true =>
          go_wp2_with fail
          refine wp_region_F (fun W => W.cell? ⟨w.heap.size, 0, none⟩ = some (.int .i64 (N : Int)) ∧ W.cell? ⟨w.heap.size, 1, none⟩ = some (.slice A xs.length ca) ∧ W.cell? ⟨w.heap.size + 1, 1, none⟩ = some (.slice (some ⟨gb, ob, none⟩) bs.length cb) ∧ W.cell? ⟨gb, ob + k * 3, none⟩ = some (.int .i64 x.x) ∧ W.cell? ⟨gb, ob + k * 3 + 1, none⟩ = some (.int .i64 x.y) ∧ W.cell? ⟨gb, ob + k * 3 + 2, none⟩ = some (.int .i64 x.most)) (by repeat (first | exact grows_cell _ _ _ | exact grows_true | refine grows_and ?_ ?_)) (by kernel_rfl) (by kernel_rfl) ?hF ?_; (case hF => (first | exact ⟨‹_›, ‹_›⟩ | (go_simp; done) | (simp [*]; done))); intro hne hxx; have hG : Hid (Grows (fun W => W.cell? ⟨w.heap.size, 0, none⟩ = some (.int .i64 (N : Int)) ∧ W.cell? ⟨w.heap.size, 1, none⟩ = some (.slice A xs.length ca) ∧ W.cell? ⟨w.heap.size + 1, 1, none⟩ = some (.slice (some ⟨gb, ob, none⟩) bs.length cb) ∧ W.cell? ⟨gb, ob + k * 3, none⟩ = some (.int .i64 x.x) ∧ W.cell? ⟨gb, ob + k * 3 + 1, none⟩ = some (.int .i64 x.y) ∧ W.cell? ⟨gb, ob + k * 3 + 2, none⟩ = some (.int .i64 x.most))) := (by repeat (first | exact grows_cell _ _ _ | exact grows_true | refine grows_and ?_ ?_)); (repeat (go_big_quiet_step ((go_at_call 64; exact cls_callB hG.out (fun W hW => by have h := rhas_any N ⟨by omega, by omega⟩ xs (.slice A xs.length ca) x W (HA.out.stays bdAt_stays (bel_tr HBW.out hW)) HG.out hlen HIN.out; rw [HH.out] at h; exact h))))); clear hG hxx hne; refine wpQuiet_nil ?_; rintro _ ⟨⟨w', hb', hF'⟩, rfl⟩
          clear hF'
          go_wp2_with fail
          go_roundw
          case rel => exact ⟨k + 1, by omega, by go_num, fun j b hj hjk => by rcases Nat.lt_or_eq_of_le (Nat.le_of_lt_succ hjk) with h | h; exact hi.out j b hj h; subst h; rw [HGET.out] at hj; injection hj with hj; subst hj; exact HH.out, bel_tr hb hb'⟩
          case measure => simp [intOf]; omega
        | false =>
          go_wp2_with fail
          refine wp_region_F (fun W => W.cell? ⟨w.heap.size, 0, none⟩ = some (.int .i64 (N : Int)) ∧ W.cell? ⟨w.heap.size, 1, none⟩ = some (.slice A xs.length ca) ∧ W.cell? ⟨w.heap.size + 1, 1, none⟩ = some (.slice (some ⟨gb, ob, none⟩) bs.length cb) ∧ W.cell? ⟨gb, ob + k * 3, none⟩ = some (.int .i64 x.x) ∧ W.cell? ⟨gb, ob + k * 3 + 1, none⟩ = some (.int .i64 x.y) ∧ W.cell? ⟨gb, ob + k * 3 + 2, none⟩ = some (.int .i64 x.most)) (by repeat (first | exact grows_cell _ _ _ | exact grows_true | refine grows_and ?_ ?_)) (by kernel_rfl) (by kernel_rfl) ?hF ?_; (case hF => (first | exact ⟨‹_›, ‹_›⟩ | (go_simp; done) | (simp [*]; done))); intro hne hxx; have hG : Hid (Grows (fun W => W.cell? ⟨w.heap.size, 0, none⟩ = some (.int .i64 (N : Int)) ∧ W.cell? ⟨w.heap.size, 1, none⟩ = some (.slice A xs.length ca) ∧ W.cell? ⟨w.heap.size + 1, 1, none⟩ = some (.slice (some ⟨gb, ob, none⟩) bs.length cb) ∧ W.cell? ⟨gb, ob + k * 3, none⟩ = some (.int .i64 x.x) ∧ W.cell? ⟨gb, ob + k * 3 + 1, none⟩ = some (.int .i64 x.y) ∧ W.cell? ⟨gb, ob + k * 3 + 2, none⟩ = some (.int .i64 x.most))) := (by repeat (first | exact grows_cell _ _ _ | exact grows_true | refine grows_and ?_ ?_)); (repeat (go_big_quiet_step ((go_at_call 64; exact cls_callB hG.out (fun W hW => by have h := rhas_any N ⟨by omega, by omega⟩ xs (.slice A xs.length ca) x W (HA.out.stays bdAt_stays (bel_tr HBW.out hW)) HG.out hlen HIN.out; rw [HH.out] at h; exact h))))); clear hG hxx hne; refine wpQuiet_nil ?_; rintro _ ⟨⟨w', hb', hF'⟩, rfl⟩
          clear hF'
          go_wp2_with fail
          go_ret2
          rw [all_no HGET.out HH.out]
          exact ⟨rfl, bel_tr HBW.out hb'⟩
      · have HALL : Hid (bs.all (hasB N xs) = true) := Lib.hid (all_yes (fun j x hj => hi.out j x hj (by have := (List.getElem?_eq_some_iff.1 hj).1; omega)))
        go_wp2_with fail
        go_ret2
        rw [HALL.out]
        exact ⟨rfl, bel_tr hbw hb⟩
  · have g0 : (e0 != 0) = true := by simpa using h0
    have HR : Hid (insideR na xs nb bs = (false, e0)) := Lib.hid (by unfold insideR; rw [he0, if_neg h0])
    clear he0 h0
    rw [HR.out]
    go_enter Try.func38, Try.ntmps38
    go_wp2_with (go_at_call 67; refine (rtwo_any na xs nb bs _ _ _ (HA.out.stays bdAt_stays (bel_al (bel_one _ _) _)) (HB.out.stays bdAt_stays (bel_al (bel_one _ _) _))).mono ?_; rw [HE0.out]; rintro e w1 ⟨rfl, hb1⟩)
    go_ret2
    exact ⟨rfl, bel_tr (bel_al (bel_one _ _) _) hb1⟩

set_option maxRecDepth 100000 in
set_option maxHeartbeats 2000000 in
theorem rmeet_any (na : Int) (xs : List Bd) (nb : Int) (bs : List Bd) (va vb : Value) (w : World) (ha : IsBds w va xs) (hb : IsBds w vb bs) :
    Calls Try.prog 40 #[zoneV na va, zoneV nb vb] w (ZoneRet w (meetR na xs nb bs)) := by
  unfold zoneV
  have HA := Lib.hid ha
  have HB := Lib.hid hb
  obtain ⟨A, ca, rfl, -, -, -⟩ := ha
  obtain ⟨B, cb, rfl, -, -, -⟩ := hb
  obtain ⟨e0, he0⟩ : ∃ e, bothErr na xs nb bs = e := ⟨_, rfl⟩
  have HE0 := Lib.hid he0
  by_cases h0 : e0 = 0
  · have g0 : (e0 != 0) = false := by simpa using h0
    obtain ⟨hz1, hz2, -⟩ := bothErr_ok (he0.trans h0)
    have hl1 := (good_of hz1).2.2.1
    have hl2 := (good_of hz2).2.2.1
    have H0 : Hid (bothErr na xs nb bs = 0) := Lib.hid (he0.trans h0)
    obtain ⟨cx, hmx, hsx, -⟩ := means_of_sl bdAt_movable HA.out
    obtain ⟨cy, hmy, hsy, -⟩ := means_of_sl bdAt_movable HB.out
    have HMX := Lib.hid hmx
    have HMY := Lib.hid hmy
    have HSX := Lib.hid hsx
    have HSY := Lib.hid hsy
    obtain ⟨j0, hj0, hy0, hy1, hy2⟩ := info_parts info_bd
    clear he0 h0 hz1 hz2 hmx hmy hsx hsy
    go_enter Try.func40, Try.ntmps40
    go_wp2_with (go_at_call 67; refine (rtwo_any na xs nb bs _ _ _ (HA.out.stays bdAt_stays (bel_al (bel_al (bel_one _ _) _) _)) (HB.out.stays bdAt_stays (bel_al (bel_al (bel_one _ _) _) _))).mono ?_; rw [HE0.out]; rintro e w1 ⟨rfl, hb1⟩; obtain ⟨hz, hun, hr, hrf, hbw, hsz⟩ := three_cells hb1; clear hb1)
    have a0 : w1.cell? ⟨w.heap.size, 0, none⟩ = some (.int .i64 na) := hz 0
    have a1 : w1.cell? ⟨w.heap.size, 1, none⟩ = some (.slice A xs.length ca) := hz 1
    have b1 : w1.cell? ⟨w.heap.size + 1, 1, none⟩ = some (.slice B bs.length cb) := hun 1
    have HRF := Lib.hid hrf
    have HHR := Lib.hid hr
    have hla : w.heap.size + 1 < w1.heap.size := by omega
    clear hz hun hr hrf
    go_region_held3 (fun W => W.cell? ⟨w.heap.size, 1, none⟩ = some (.slice A xs.length ca) ∧ W.cell? ⟨w.heap.size + 1, 1, none⟩ = some (.slice B bs.length cb)) (with_reducible exact keep2 (p1 := (w.heap.size, 1)) (p2 := (w.heap.size + 1, 1)) (by repeat (first | with_reducible exact Below.refl _ _ | assumption | with_reducible refine Below.drew ?_ | with_reducible refine bel_al ?_ _ | with_reducible refine bel_tr ?_ (by assumption))) ⟨a1, b1⟩) (first
      | (change Oper.wp _ _ _ _ _ _; refine at_app _ (.tmp 15) (.tmp 17) 22 rfl w1.heap.size 56 j0 _ 3 24 Try.underlying22 hj0 hy0 hy1 hy2 rfl (by decide) (.slice (some ⟨w1.heap.size, 0, none⟩) 0 0) 0 [] (by rfl) (ownsRow_below (ownsRow_empty w1 w1.heap.size _ _ (Nat.le_refl _)) (Below.refl _ _).drew) A xs.length ca cx (by rfl) (HSX.out.stays (bel_tr hbw (bel_one w1 _).drew)) (by unfold maxLen; omega) (by omega) (by simp) ?_; intro v6 w6 hown6 hg6 hloc6; obtain ⟨A6, c6, rfl⟩ := slice_own hown6; have HO6 := Lib.hid hown6; have hb6 : Below w1.heap.size w1 w6 := (bel_one w1 _).drew.trans (grown_below hg6 (by simp) (fun g h => (ownsRow_lt (ownsRow_below (ownsRow_empty w1 w1.heap.size 56 3 (Nat.le_refl _)) (Below.refl _ _).drew) h).1)); clear hown6 hg6 hloc6)
      | (change Oper.wp _ _ _ _ _ _; refine at_app _ (.tmp 18) (.tmp 20) 22 rfl w1.heap.size 56 j0 _ 3 24 Try.underlying22 hj0 hy0 hy1 hy2 rfl (by decide) (.slice A6 (0 + xs.length) c6) (0 + xs.length) ([] ++ cx) (by rfl) HO6.out B bs.length cb cy (by rfl) (HSY.out.stays (bel_tr hbw hb6)) (by unfold maxLen; omega) (by omega) hb6.size ?_; intro v7 w7 hown7 hg7 hloc7; obtain ⟨A7, c7, rfl⟩ := slice_own hown7; have HO7 := Lib.hid hown7; have hb7 : Below w1.heap.size w1 w7 := hb6.trans (grown_below hg7 hb6.size (fun g h => (ownsRow_lt HO6.out h).1)); clear hown7 hg7 hloc7))
    all_goals
      obtain ⟨hr3, hrf3, hsz3⟩ := arr_keep2 HHR.out HRF.out (by omega) hb7
      replace a0 := cell_stays hb7 a0
      have hown := HO7.out
      rw [List.nil_append, Nat.zero_add] at hown
      have hq : IsBds w7 (.slice A7 (xs.length + bs.length) c7) (xs ++ bs) := sl_of_means (HMX.out.app HMY.out) (bel_tr hbw hb7) (by rw [List.length_append]; exact hown)
      have HQ := Lib.hid hq
      clear hown hq
      by_cases h5 : 256 < (xs.length : Int) + (bs.length : Int)
      · have HR : Hid (meetR na xs nb bs = (0, [], 5)) := Lib.hid (by unfold meetR; rw [if_pos H0.out, if_pos h5])
        go_wp2_with fail
        rw [HR.out]
        exact bodyPost_ret (v := .tuple #[.agg #[.int .i64 0, .slice none 0 0], .int .i64 5]) (by simp [results, Try.results40, go_sem, hr3]) rfl ⟨_, rfl, Sl.nil _ _ _ _ _ (Nat.zero_le _), bel_set (bel_set (bel_tr hbw hb7) (by omega) _) (by omega) _⟩
      · have HR : Hid (meetR na xs nb bs = (na, xs ++ bs, 0)) := Lib.hid (by unfold meetR; rw [if_pos H0.out, if_neg h5])
        go_wp2_with fail
        rw [HR.out]
        exact bodyPost_ret (v := .tuple #[.agg #[.int .i64 na, .slice A7 (xs.length + bs.length) c7], .int .i64 0]) (by simp [results, Try.results40, go_sem, hr3]) rfl ⟨_, rfl, isBds_set HQ.out hr3 (by decide) _ _ _ _, bel_set (bel_set (bel_tr hbw hb7) (by omega) _) (by omega) _⟩
  · have g0 : (e0 != 0) = true := by simpa using h0
    have HR : Hid (meetR na xs nb bs = (0, [], e0)) := Lib.hid (by unfold meetR; rw [he0, if_neg h0])
    clear he0 h0
    go_enter Try.func40, Try.ntmps40
    go_wp2_with (go_at_call 67; refine (rtwo_any na xs nb bs _ _ _ (HA.out.stays bdAt_stays (bel_al (bel_al (bel_one _ _) _) _)) (HB.out.stays bdAt_stays (bel_al (bel_al (bel_one _ _) _) _))).mono ?_; rw [HE0.out]; rintro e w1 ⟨rfl, hb1⟩; obtain ⟨hz, hun, hr, hrf, hbw, hsz⟩ := three_cells hb1; clear hb1)
    rw [HR.out]
    exact bodyPost_ret (v := .tuple #[.agg #[.int .i64 0, .slice none 0 0], .int .i64 e0]) (by simp [results, Try.results40, go_sem, hr]) rfl ⟨_, rfl, Sl.nil _ _ _ _ _ (Nat.zero_le _), bel_set (bel_set hbw (by omega) _) (by omega) _⟩
end Go.Proofs.Ytgecbjjcjemcgaa
