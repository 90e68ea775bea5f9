/- The helpers of the laws: good, with, solvable; slices.Clone. -/
import Derived.Test.YtgecbjjcjemcgaaDslv
import Derived.Test.YtgecbjjcjemcgaaDindex
import Derived.Test.YtgecbjjcjemcgaaDclosed
import Derived.Test.YtgecbjjcjemcgaaDsame
import Derived.Test.YtgecbjjcjemcgaaDrange
import Derived.Maps.AppendAt
namespace Go.Proofs.Ytgecbjjcjemcgaa
open Go.RowKit

/-- a new row with these cells is handed back; what was there is as it was -/
def OwnRet (e sz n : Nat) (cs : List Value) (w : World) (x : Ending) (w' : World) : Prop := ∃ v', x = .returned v' ∧ w'.ownsRow w.heap.size e sz v' n cs ∧ Below w.heap.size w w'

theorem cloneBds (A : Option Addr) (n c : Nat) (cs : List Value) (w : World) (hs : Src w A n 3 cs) (hn : n ≤ 1048576) :
    Calls Try.prog 53 #[.slice A n c] w (OwnRet 56 3 n cs w) := by
  obtain ⟨i0, hi, hz0, hz1, hz2⟩ := info_parts info_bd
  have he := fun W => Lib.run_eql_slice_nil W 22 56 A n c 0 0 Try.underlying22
  cases A with
  | none =>
    have h0 : n = 0 := by
      rcases Nat.eq_zero_or_pos n with h | h
      · exact h
      · obtain ⟨b, o, hA, _⟩ := hs.2.2 h; cases hA
    subst h0
    have hcs : cs = [] := List.eq_nil_of_length_eq_zero (by simpa using hs.1)
    subst hcs
    clear hs
    go_enter Try.func53, Try.ntmps53
    go_wp2
    go_ret
    exact ⟨_, rfl, ⟨by simp, .inl ⟨rfl, rfl⟩⟩, Below.refl _ _⟩
  | some ad =>
    have HS := Lib.hid hs
    clear hs
    go_enter Try.func53, Try.ntmps53
    go_wp2_with (at_builtin; refine wpList_app _ rfl (.tmp 5) (.tmp 6) 22 rfl w.heap.size 56 i0 _ 3 24 Try.underlying22 hi hz0 hz1 hz2 rfl (by decide) (.slice (some ⟨w.heap.size, 0, none⟩) 0 0) 0 [] rfl (ownsRow_empty w _ _ _ (Nat.le_refl _)) (some ad) n c cs rfl (HS.out.stays (bel_al (Below.refl _ _) _)) (by unfold maxLen; omega) (by omega) (by simp) ?_; intro v1 w1 hown hg hloc)
    go_ret
    exact ⟨_, rfl, by simpa using hown, (bel_al (Below.refl _ _) _).trans (grown_below hg (by simp) (fun g h => Nat.le_of_eq (by simpa [Value.ownBlock] using h)))⟩

theorem cloneInts (A : Option Addr) (n c : Nat) (cs : List Value) (w : World) (hs : Src w A n 1 cs) (hn : n ≤ 1048576) :
    Calls Try.prog 30 #[.slice A n c] w (OwnRet 3 1 n cs w) := by
  obtain ⟨i0, hi, hz0, hz1, hz2⟩ := info_parts info_int
  have he := fun W => Lib.run_eql_slice_nil W 27 3 A n c 0 0 Try.underlying27
  cases A with
  | none =>
    have h0 : n = 0 := by
      rcases Nat.eq_zero_or_pos n with h | h
      · exact h
      · obtain ⟨b, o, hA, _⟩ := hs.2.2 h; cases hA
    subst h0
    have hcs : cs = [] := List.eq_nil_of_length_eq_zero (by simpa using hs.1)
    subst hcs
    clear hs
    go_enter Try.func30, Try.ntmps30
    go_wp2
    go_ret
    exact ⟨_, rfl, ⟨by simp, .inl ⟨rfl, rfl⟩⟩, Below.refl _ _⟩
  | some ad =>
    have HS := Lib.hid hs
    clear hs
    go_enter Try.func30, Try.ntmps30
    go_wp2_with (at_builtin; refine wpList_app _ rfl (.tmp 5) (.tmp 6) 27 rfl w.heap.size 3 i0 _ 1 8 Try.underlying27 hi hz0 hz1 hz2 rfl (by decide) (.slice (some ⟨w.heap.size, 0, none⟩) 0 0) 0 [] rfl (ownsRow_empty w _ _ _ (Nat.le_refl _)) (some ad) n c cs rfl (HS.out.stays (bel_al (Below.refl _ _) _)) (by unfold maxLen; omega) (by omega) (by simp) ?_; intro v1 w1 hown hg hloc)
    go_ret
    exact ⟨_, rfl, by simpa using hown, (bel_al (Below.refl _ _) _).trans (grown_below hg (by simp) (fun g h => Nat.le_of_eq (by simpa [Value.ownBlock] using h)))⟩

set_option maxRecDepth 100000 in
set_option maxHeartbeats 2000000 in
theorem with_any (n : Int) (bs : List Bd) (v : Value) (x y m : Int) (w : World) (hl : IsBds w v bs) (hsm : bs.length ≤ 1048000) :
    Calls Try.prog 27 #[zoneV n v, .int .i64 x, .int .i64 y, .int .i64 m] w fun e W => ∃ v', e = .returned (zoneV n v') ∧ IsBds W v' (bs ++ [⟨x, y, m⟩]) ∧ Below w.heap.size w W := by
  unfold zoneV
  obtain ⟨A, c, rfl, h1, h2, hat⟩ := hl
  obtain ⟨cs, hm, hs, -⟩ := means_of_sl bdAt_movable ⟨A, c, rfl, h1, h2, hat⟩
  have HM := Lib.hid hm
  have HS := Lib.hid hs
  obtain ⟨j0, hj0, hy0, hy1, hy2⟩ := info_parts info_bd
  clear hm hs hat h1 h2
  go_enter Try.func27, Try.ntmps27
  go_wp2_with fail
  refine (cloneBds A bs.length c cs _ (HS.out.stays (bel_al (bel_one _ _) _)) (by omega)).mono ?_
  rintro e w1 ⟨v1, rfl, hown1, hb1⟩
  obtain ⟨hz, hr, hrf, hbw, hsz⟩ := two_cells hb1
  obtain ⟨hz', hzf⟩ := new_cells (bel_tr (bel_one (w.alloc (.cells #[.int .i64 n, .slice A bs.length c] 24)) (.cells #[.int .i64 0, .slice none 0 0] 24)) hb1)
  simp only [World.size_alloc] at hown1
  obtain ⟨A1, c1, rfl⟩ := slice_own hown1
  have z0 : w1.cell? ⟨w.heap.size, 0, none⟩ = some (.int .i64 n) := hz 0
  have z1 : w1.cell? ⟨w.heap.size, 1, none⟩ = some (.slice A bs.length c) := hz 1
  have zf := hzf 1
  have r0 : w1.cell? ⟨w.heap.size + 1, 0, none⟩ = some (.int .i64 0) := hr 0
  have r1 : w1.cell? ⟨w.heap.size + 1, 1, none⟩ = some (.slice none 0 0) := hr 1
  have rf0 := hrf 0
  have rf1 := hrf 1
  have HO1 := Lib.hid hown1
  have HBW := Lib.hid hbw
  clear hz hz' hzf hr hrf hb1 hown1 hbw
  go_wp2_with (at_builtin; refine wpList_app _ rfl (.tmp 11) (.tmp 16) 22 rfl (w.heap.size + 1 + 1) 56 j0 _ 3 24 Try.underlying22 hj0 hy0 hy1 hy2 rfl (by decide) (.slice A1 bs.length c1) bs.length cs rfl (ownsRow_below HO1.out (bel_one _ _)) (some ⟨w1.heap.size, 0, none⟩) 1 1 [.int .i64 x, .int .i64 y, .int .i64 m] rfl (src_new w1 [.int .i64 x, .int .i64 y, .int .i64 m] _ 1 3 rfl (by simp [Value.oneCell'])) (by unfold maxLen; omega) (by omega) (by simp; omega) ?_; intro v6 w6 hown6 hg6 hloc6; obtain ⟨A6, c6, rfl⟩ := slice_own hown6; have HO6 := Lib.hid hown6; have hb6 : Below (w.heap.size + 1 + 1) w1 w6 := ((bel_one w1 _).mono (by omega)).trans (grown_below hg6 (by simp; omega) (fun g h => (ownsRow_lt HO1.out h).1)); replace z0 := (hb6.cell (p := ⟨w.heap.size, 0, none⟩) (by simp only; omega)).trans z0; replace z1 := (hb6.cell (p := ⟨w.heap.size, 1, none⟩) (by simp only; omega)).trans z1; replace r0 := (hb6.cell (p := ⟨w.heap.size + 1, 0, none⟩) (by simp only; omega)).trans r0; replace r1 := (hb6.cell (p := ⟨w.heap.size + 1, 1, none⟩) (by simp only; omega)).trans r1; replace zf := (World.frozen?_of_block (a := ⟨w.heap.size, 1, none⟩) (hb6.block _ (by simp only; omega))).trans zf; replace rf0 := (World.frozen?_of_block (a := ⟨w.heap.size + 1, 0, none⟩) (hb6.block _ (by simp only; omega))).trans rf0; replace rf1 := (World.frozen?_of_block (a := ⟨w.heap.size + 1, 1, none⟩) (hb6.block _ (by simp only; omega))).trans rf1; clear hown6 hg6 hloc6)
  have hb06 : Below w.heap.size w w6 := HBW.out.trans (hb6.mono (by omega))
  refine bodyPost_ret (v := .agg #[.int .i64 n, .slice A6 (bs.length + 1) c6]) (by simp [results, Try.results27, go_sem, r0, r1]) rfl ⟨_, rfl, ?_, bel_set (bel_set (bel_set hb06 (by omega) _) (by omega) _) (by omega) _⟩
  have h8 := HO6.out
  have h9 := ownsRow_kept (w' := ((w6.setCell ⟨w.heap.size, 1, none⟩ (.slice A6 (bs.length + 1) c6)).setCell ⟨w.heap.size + 1, 0, none⟩ (.int .i64 n)).setCell ⟨w.heap.size + 1, 1, none⟩ (.slice A6 (bs.length + 1) c6)) h8 (fun g hg => by
    have h5 := (ownsRow_lt h8 hg).1
    rw [Below.heap_setCell _ _ _ _ (by simp only; omega), Below.heap_setCell _ _ _ _ (by simp only; omega), Below.heap_setCell _ _ _ _ (by simp only; omega)])
  have hm : Means BdAt 3 w (cs ++ [.int .i64 x, .int .i64 y, .int .i64 m]) (bs ++ [⟨x, y, m⟩]) := HM.out.app (bd_one_mean w ⟨x, y, m⟩)
  exact sl_of_means hm (bel_set (bel_set (bel_set hb06 (by omega) _) (by omega) _) (by omega) _) (by simpa using h9)

set_option maxHeartbeats 1000000 in
theorem solvable_any (n : Int) (hn6 : n ≤ 6) (bs : List Bd) (v : Value) (w : World) (hl : IsBds w v bs) :
    Calls Try.prog 26 #[zoneV n v] w fun e W => e = .returned (.tuple #[.bool (decide (zoneErr n bs = 0) && feas n.toNat (bs.map ed)), .bool (decide (zoneErr n bs = 0))]) ∧ Below w.heap.size w W := by
  unfold zoneV
  have HL := Lib.hid hl
  obtain ⟨A, c, rfl, -⟩ := hl
  obtain ⟨b2, hb2⟩ : ∃ b, decide (zoneErr n bs = 0) = b := ⟨_, rfl⟩
  have HB2 := Lib.hid hb2
  rw [hb2]
  obtain ⟨b1, hb1⟩ : ∃ b, (b2 && feas n.toNat (bs.map ed)) = b := ⟨_, rfl⟩
  have HB1 := Lib.hid hb1
  rw [hb1]
  clear hb1 hb2
  go_enter Try.func26, Try.ntmps26
  go_wp2_with fail
  refine (zsolve_any n hn6 bs _ _ (HL.out.stays bdAt_stays (bel_one _ _))).mono ?_
  rintro e w2 ⟨hb2, h2⟩
  rcases h2 with ⟨h2, rfl⟩ | ⟨hz0, hfe, v2, rfl, hq2⟩ | ⟨hz0, hfe, L, A2, c2, rfl, hcy, hsm, hq2⟩
  · obtain rfl : b2 = false := by rw [← HB2.out]; simpa using h2
    obtain rfl : b1 = false := by rw [← HB1.out]; rfl
    obtain ⟨e0, he0⟩ : ∃ e, zoneErr n bs = e := ⟨_, rfl⟩
    rw [he0] at h2
    have g0 : (e0 == 0) = false := by simpa using h2
    have HE0 := Lib.hid he0
    clear he0 h2
    rw [HE0.out]
    go_wp2_with fail
    go_ret2
    exact ⟨rfl, bel_tr (bel_one _ _) hb2⟩
  · obtain rfl : b2 = true := by rw [← HB2.out]; simpa using hz0
    obtain rfl : b1 = true := by rw [← HB1.out, hfe]; rfl
    obtain ⟨A2, c2, rfl, -⟩ := hq2
    clear hz0 hfe
    go_wp2_with fail
    go_ret2
    exact ⟨rfl, bel_tr (bel_one _ _) hb2⟩
  · obtain rfl : b2 = true := by rw [← HB2.out]; simpa using hz0
    obtain rfl : b1 = false := by rw [← HB1.out, hfe]; rfl
    clear hz0 hfe hcy hsm hq2
    go_wp2_with fail
    go_ret2
    exact ⟨rfl, bel_tr (bel_one _ _) hb2⟩

/-- a zone that is not small or not well-formed -/
def badZ (z : Zn) : Bool := !(decide (z.n ≤ 6) && decide ((z.m : Int) ≤ 12)) || (zoneErr z.n z.bs != 0)
theorem badZ_any (z : Zn) (w : World) (hl : IsBds w (.slice z.A z.m z.c) z.bs) :
    Calls Try.prog 52 #[zoneV z.n (.slice z.A z.m z.c)] w fun e W => e = .returned (.bool (badZ z)) ∧ Below w.heap.size w W := by
  obtain ⟨n, A, m, c, bs⟩ := z
  simp only at hl ⊢
  unfold badZ zoneV
  have HL := Lib.hid hl
  clear hl
  obtain ⟨f1, hf1⟩ : ∃ f1, (decide (n ≤ 6) && decide ((m : Int) ≤ 12)) = f1 := ⟨_, rfl⟩
  have HF1 := Lib.hid hf1
  clear hf1
  obtain ⟨e0, he0⟩ : ∃ e, zoneErr n bs = e := ⟨_, rfl⟩
  have HE0 := Lib.hid he0
  clear he0
  simp only [HE0.out, HF1.out]
  cases f1 with
  | false =>
    go_enter Try.func52, Try.ntmps52
    go_wp2_with (go_at_call 12; refine (few_any n _ _ _ _).mono ?_; rw [HF1.out]; rintro e w1 ⟨rfl, hb1⟩)
    go_ret
    exact ⟨rfl, bel_tr (bel_one _ _) hb1⟩
  | true =>
    go_enter Try.func52, Try.ntmps52
    go_wp2_with (first
      | (go_at_call 12; refine (few_any n _ _ _ _).mono ?_; rw [HF1.out]; rintro e w1 ⟨rfl, hb1⟩; obtain ⟨hz, -⟩ := new_cells hb1; have hbw := bel_tr (bel_one _ _) hb1; clear hb1)
      | (go_at_call 33; refine (rzcheck_any n bs _ _ (HL.out.stays bdAt_stays hbw)).mono ?_; rw [HE0.out]; rintro e w2 ⟨rfl, hb2⟩))
    go_ret
    exact ⟨rfl, bel_tr hbw hb2⟩
theorem enter_bad (args : Array Value) (W : World) : (callFunc 52 args).run Try.prog W = .ok (.enter 52 args) W := by rfl
theorem good_any (l : List Zn) (v : Value) (w : World) (hv : IsZns w v l) (hl : ∀ z ∈ l, IsBds w (.slice z.A z.m z.c) z.bs) :
    Calls Try.prog 25 #[v] w fun e W => e = .returned (.bool (!l.any badZ)) ∧ Below w.heap.size w W := by
  have HV := Lib.hid hv
  have HL := Lib.hid hl
  obtain ⟨A, c, rfl, -⟩ := hv
  clear hl
  obtain ⟨b, hb⟩ : ∃ b, l.any badZ = b := ⟨_, rfl⟩
  have HB := Lib.hid hb
  clear hb
  rw [HB.out]
  go_enter Try.func25, Try.ntmps25
  go_wp2_with (go_at_call 51; refine (containsZns_any 52 [] badZ l _ _ HV.out enter_bad (fun W z hW hm => badZ_any z W ((HL.out z hm).stays bdAt_stays hW))).mono ?_; rw [HB.out]; rintro e w2 ⟨rfl, hb2⟩)
  go_ret
  exact ⟨rfl, hb2⟩
end Go.Proofs.Ytgecbjjcjemcgaa
