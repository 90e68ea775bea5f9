/- Ready, as the program and as the reference do it. -/
import Derived.Test.YteonfoaemljndaaRecv
namespace Go.Proofs.Yteonfoaemljndaa
open Go.RowKit

theorem info_int : (Try.prog.info? 3).map (fun i => (i.zero, i.size, i.bytes)) = some (some (.int .i64 0), 1, 8) := by kernel_rfl

def isReady (to : Int) (q : Queue) : Bool := q.to == to && decide (0 < q.items.length)
def readyL (l : List Queue) (to : Int) : List Int := (l.filter (isReady to)).map (·.frm)
def readyR (l : List Queue) (to : Int) : List Int × Int := if checkErr l = 0 then (readyL l to, 0) else ([], checkErr l)
theorem readyR_no {l : List Queue} {to : Int} (h : checkErr l ≠ 0) : readyR l to = ([], checkErr l) := by unfold readyR; rw [if_neg h]
theorem readyR_ok {l : List Queue} {to : Int} (h : checkErr l = 0) : readyR l to = (readyL l to, 0) := by unfold readyR; rw [if_pos h]
theorem take_snoc' {α : Type} {l : List α} {k : Nat} {x : α} (h : l[k]? = some x) : l.take (k + 1) = l.take k ++ [x] := by
  obtain ⟨hk, rfl⟩ := List.getElem?_eq_some_iff.1 h
  rw [List.take_succ_eq_append_getElem hk]
theorem readyL_yes {l : List Queue} {to : Int} {k : Nat} {q : Queue} (h : l[k]? = some q) (h1 : q.to = to) (h2 : 0 < q.items.length) : readyL (l.take (k + 1)) to = readyL (l.take k) to ++ [q.frm] := by
  rw [take_snoc' h]
  have : isReady to q = true := by simp [isReady, h1, h2]
  simp [readyL, List.filter_append, this]
theorem readyL_no {l : List Queue} {to : Int} {k : Nat} {q : Queue} (h : l[k]? = some q) (h1 : ¬ (q.to = to ∧ 0 < q.items.length)) : readyL (l.take (k + 1)) to = readyL (l.take k) to := by
  rw [take_snoc' h]
  have : isReady to q = false := by
    unfold isReady
    rw [Bool.and_eq_false_iff]
    by_cases h3 : q.to = to
    · exact .inr (decide_eq_false (fun h4 => h1 ⟨h3, h4⟩))
    · exact .inl (by simpa using h3)
  simp [readyL, List.filter_append, this]
theorem readyL_len (l : List Queue) (to : Int) : (readyL l to).length ≤ l.length := by
  unfold readyL; rw [List.length_map]; exact List.length_filter_le _ _

def IntsRet (w : World) (r : List Int × Int) (x : Ending) (W : World) : Prop := ∃ v, x = .returned (.tuple #[v, .int .i64 r.2]) ∧ IsInts W v r.1 ∧ Below w.heap.size w W

theorem ints_mean (w : World) (xs : List Int) : Means IntAt 1 w (xs.map (Value.int .i64)) xs := by
  refine ⟨by simp, ?_, ?_⟩
  · intro u hu
    obtain ⟨x, _, rfl⟩ := List.mem_map.1 hu
    rfl
  · intro W b o _ hc k x hk
    have := hc k (.int .i64 x) (by simp [hk])
    simpa [IntAt] using this

theorem src_new' (w : World) (cs : List Value) (t n sz k : Nat) (hk : k = w.heap.size) (hl : cs.length = n * sz) (h1 : ∀ u ∈ cs, u.oneCell' = true) : Src (w.alloc (.cells cs.toArray t)) (some ⟨k, 0, none⟩) n sz cs := by
  subst hk; exact src_new w cs t n sz hl h1

set_option maxRecDepth 100000 in
set_option maxHeartbeats 1000000 in
theorem ready_any (l : List Queue) (v : Value) (to : Int) (w : World) (hl : IsQueues w v l) (hsm : l.length ≤ 1048576) :
    Calls Try.prog 30 #[v, .int .i64 to] w (IntsRet w (readyR l to)) := by
  have HL0 := Lib.hid hl
  obtain ⟨A, c, rfl, h1, h2, hat⟩ := hl
  have hn := len_i64 h1 h2
  have HL := Lib.hid hat
  clear hat h1 h2
  obtain ⟨x, hx⟩ : ∃ x, x = checkErr l := ⟨_, rfl⟩
  have HX := Lib.hid hx
  by_cases h0 : (x != 0) = true
  · have HR := Lib.hid (readyR_no (to := to) (by rw [← hx]; simpa using h0 : checkErr l ≠ 0))
    go_enter Try.func30, Try.ntmps30
    go_wp2_with (go_at_call 19; refine (check_any l _ _ HL0.out).mono ?_; rw [← hx]; rintro e w1 ⟨rfl, hb1⟩; clear hx)
    go_ret2
    rw [HR.out, ← HX.out]
    exact ⟨_, rfl, Sl.nil _ _ _ _ _ (Nat.zero_le _), hb1⟩
  · simp only [Bool.not_eq_true] at h0
    have HR := Lib.hid (readyR_ok (to := to) (by rw [← hx]; simpa using h0 : checkErr l = 0))
    obtain ⟨j0, hj0, hy0, hy1, hy2⟩ := info_parts info_int
    go_enter Try.func30, Try.ntmps30
    go_wp2_with (go_at_call 19; refine (check_any l _ _ HL0.out).mono ?_; rw [← hx]; rintro e w1 ⟨rfl, hb1⟩; clear hx)
    go_loopw [7, 17] (fun v i wr => ∃ k : Nat, k ≤ l.length ∧ i = .int .i64 k ∧ Hid (wr.ownsRow w1.heap.size 3 1 v (readyL (l.take k) to).length ((readyL (l.take k) to).map (Value.int .i64)) ∧ Below w1.heap.size w1 wr)) (fun _ i _ => l.length - (intOf i).toNat)
    case atStart => exact ⟨0, Nat.zero_le _, rfl, ⟨rfl, .inl ⟨rfl, rfl⟩⟩, Below.refl _ _⟩
    case round =>
      obtain ⟨k, hk, rfl, hI⟩ := hrel
      by_cases hlt : k < l.length
      · obtain ⟨b, o, rfl, v, hv, c0, c1, c2⟩ := HL.out k l[k] (List.getElem?_eq_getElem hlt)
        have hbk := bel_tr hb1 hI.2
        have hget := Lib.hid (List.getElem?_eq_getElem hlt)
        replace c0 := cell_stays hbk c0
        replace c1 := cell_stays hbk c1
        replace c2 := cell_stays hbk c2
        clear hbk
        obtain ⟨A', c', rfl, -⟩ := hv
        obtain ⟨q, hq⟩ : ∃ q, q = l[k] := ⟨_, rfl⟩
        rw [← hq] at c0 c1 c2 hget
        clear hq
        have hbl := World.block_lt_of_cell? wr _ c2
        simp only at hbl
        have hk' : (k : Int) < (l.length : Int) := by omega
        have hll := Lib.hid (readyL_len (l.take k) to)
        have hl2 : (readyL (l.take k) to).length ≤ 1048576 := by have h5 := hll.out; rw [List.length_take] at h5; omega
        obtain ⟨A1, c1', hA1⟩ := slice_own hI.1
        by_cases e1 : q.to = to
        · have g1 : (q.to == to) = true := by simpa using e1
          by_cases e2 : 0 < q.items.length
          · have g2 : (0 : Int) < (q.items.length : Int) := by omega
            have HS := Lib.hid (readyL_yes hget.out e1 e2)
            clear e1 e2
            rw [hA1]
            go_wp2_with (at_builtin; refine wpList_app _ rfl (.tmp 31) (.tmp 34) 62 rfl w1.heap.size 3 j0 _ 1 8 Try.underlying62 hj0 hy0 hy1 hy2 rfl (by decide) (.slice A1 (readyL (l.take k) to).length c1') (readyL (l.take k) to).length ((readyL (l.take k) to).map (Value.int .i64)) rfl (hA1 ▸ (ownsRow_below hI.1 (bel_al (bel_al (Below.refl _ _) _) _))) (some ⟨wr.heap.size + 1, 0, none⟩) 1 1 [.int .i64 q.frm] rfl (src_new' (wr.alloc (.cells #[.int .i64 q.frm, .int .i64 q.to, .slice A' q.items.length c'] 69)) _ _ 1 1 _ (by simp) rfl (by simp [Value.oneCell'])) (by unfold maxLen; omega) (by omega) (by have := hI.2.size; simp; omega) ?_; intro v1 w2 hown1 hg1 hloc1; have HO := Lib.hid hown1; have HB := Lib.hid ((bel_al (bel_al hI.2 _) _).trans (grown_below hg1 (by have := hI.2.size; simp; omega) (fun g h => (ownsRow_lt (hA1 ▸ hI.1) h).1))); obtain ⟨A2, c2', rfl⟩ := slice_own hown1; clear hown1 hg1 hloc1)
            go_roundw
            case rel => exact ⟨k + 1, by omega, by go_num, by rw [HS.out, List.map_append, List.length_append]; exact HO.out, HB.out⟩
            case measure => simp [intOf]; omega
          · have g2 : ¬ (0 : Int) < (q.items.length : Int) := by omega
            have HS := Lib.hid (readyL_no (to := to) hget.out (fun h => e2 h.2))
            clear e1 e2
            go_wp2
            go_roundw
            case rel => exact ⟨k + 1, by omega, by go_num, by rw [HS.out]; exact ownsRow_below hI.1 (bel_al (Below.refl _ _) _), bel_al hI.2 _⟩
            case measure => simp [intOf]; omega
        · have g1 : (q.to == to) = false := by simpa using e1
          have HS := Lib.hid (readyL_no (to := to) hget.out (fun h => e1 h.1))
          clear e1
          go_wp2
          go_roundw
          case rel => exact ⟨k + 1, by omega, by go_num, by rw [HS.out]; exact ownsRow_below hI.1 (bel_al (Below.refl _ _) _), bel_al hI.2 _⟩
          case measure => simp [intOf]; omega
      · obtain rfl : k = l.length := by omega
        go_wp2
        go_ret2
        rw [HR.out]
        have h7 := hI.1
        rw [List.take_length] at h7
        exact ⟨_, rfl, sl_of_means (ints_mean w _) (bel_tr hb1 hI.2) h7, bel_tr hb1 hI.2⟩

set_option maxRecDepth 100000 in
set_option maxHeartbeats 1000000 in
theorem rready_any (l : List Queue) (v : Value) (to : Int) (w : World) (hl : IsQueues w v l) (hsm : l.length ≤ 1048576) :
    Calls Try.prog 31 #[v, .int .i64 to] w (IntsRet w (readyR l to)) := by
  have HL0 := Lib.hid hl
  obtain ⟨A, c, rfl, h1, h2, hat⟩ := hl
  have hn := len_i64 h1 h2
  have HL := Lib.hid hat
  clear hat h1 h2
  obtain ⟨x, hx⟩ : ∃ x, x = checkErr l := ⟨_, rfl⟩
  have HX := Lib.hid hx
  by_cases h0 : (x != 0) = true
  · have HR := Lib.hid (readyR_no (to := to) (by rw [← hx]; simpa using h0 : checkErr l ≠ 0))
    go_enter Try.func31, Try.ntmps31
    go_wp2_with (go_at_call 20; refine (rcheck_any l _ _ HL0.out).mono ?_; rw [← hx]; rintro e w1 ⟨rfl, hb1⟩; clear hx)
    go_ret2
    rw [HR.out, ← HX.out]
    exact ⟨_, rfl, Sl.nil _ _ _ _ _ (Nat.zero_le _), hb1⟩
  · simp only [Bool.not_eq_true] at h0
    have HR := Lib.hid (readyR_ok (to := to) (by rw [← hx]; simpa using h0 : checkErr l = 0))
    obtain ⟨j0, hj0, hy0, hy1, hy2⟩ := info_parts info_int
    go_enter Try.func31, Try.ntmps31
    go_wp2_with (go_at_call 20; refine (rcheck_any l _ _ HL0.out).mono ?_; rw [← hx]; rintro e w1 ⟨rfl, hb1⟩; clear hx)
    go_loopw [7, 8] (fun v i wr => ∃ k : Nat, k ≤ l.length ∧ i = .int .i64 k ∧ Hid (wr.ownsRow w1.heap.size 3 1 v (readyL (l.take k) to).length ((readyL (l.take k) to).map (Value.int .i64)) ∧ Below w1.heap.size w1 wr)) (fun _ i _ => l.length - (intOf i).toNat)
    case atStart => exact ⟨0, Nat.zero_le _, rfl, ⟨rfl, .inl ⟨rfl, rfl⟩⟩, Below.refl _ _⟩
    case round =>
      obtain ⟨k, hk, rfl, hI⟩ := hrel
      by_cases hlt : k < l.length
      · obtain ⟨b, o, rfl, v, hv, c0, c1, c2⟩ := HL.out k l[k] (List.getElem?_eq_getElem hlt)
        have hbk := bel_tr hb1 hI.2
        have hget := Lib.hid (List.getElem?_eq_getElem hlt)
        replace c0 := cell_stays hbk c0
        replace c1 := cell_stays hbk c1
        replace c2 := cell_stays hbk c2
        clear hbk
        obtain ⟨A', c', rfl, -⟩ := hv
        obtain ⟨q, hq⟩ : ∃ q, q = l[k] := ⟨_, rfl⟩
        rw [← hq] at c0 c1 c2 hget
        clear hq
        have hbl := World.block_lt_of_cell? wr _ c2
        simp only at hbl
        have hk' : (k : Int) < (l.length : Int) := by omega
        have hll := Lib.hid (readyL_len (l.take k) to)
        have hl2 : (readyL (l.take k) to).length ≤ 1048576 := by have h5 := hll.out; rw [List.length_take] at h5; omega
        obtain ⟨A1, c1', hA1⟩ := slice_own hI.1
        by_cases e1 : q.to = to
        · have g1 : (q.to == to) = true := by simpa using e1
          by_cases e2 : 0 < q.items.length
          · have g2 : (0 : Int) < (q.items.length : Int) := by omega
            have HS := Lib.hid (readyL_yes hget.out e1 e2)
            clear e1 e2
            rw [hA1]
            go_wp2_with (at_builtin; refine wpList_app _ rfl (.tmp 36) (.tmp 42) 62 rfl w1.heap.size 3 j0 _ 1 8 Try.underlying62 hj0 hy0 hy1 hy2 rfl (by decide) (.slice A1 (readyL (l.take k) to).length c1') (readyL (l.take k) to).length ((readyL (l.take k) to).map (Value.int .i64)) rfl (hA1 ▸ (ownsRow_below hI.1 (bel_al (Below.refl _ _) _))) (some ⟨wr.heap.size, 0, none⟩) 1 1 [.int .i64 q.frm] rfl (src_new' wr _ _ 1 1 _ (by simp) rfl (by simp [Value.oneCell'])) (by unfold maxLen; omega) (by omega) (by have := hI.2.size; simp; omega) ?_; intro v1 w2 hown1 hg1 hloc1; have HO := Lib.hid hown1; have HB := Lib.hid ((bel_al hI.2 _).trans (grown_below hg1 (by have := hI.2.size; simp; omega) (fun g h => (ownsRow_lt (hA1 ▸ hI.1) h).1))); obtain ⟨A2, c2', rfl⟩ := slice_own hown1; clear hown1 hg1 hloc1)
            go_roundw
            case rel => exact ⟨k + 1, by omega, by go_num, by rw [HS.out, List.map_append, List.length_append]; exact HO.out, HB.out⟩
            case measure => simp [intOf]; omega
          · have g2 : ¬ (0 : Int) < (q.items.length : Int) := by omega
            have HS := Lib.hid (readyL_no (to := to) hget.out (fun h => e2 h.2))
            clear e1 e2
            go_wp2
            go_roundw
            case rel => exact ⟨k + 1, by omega, by go_num, by rw [HS.out]; exact hI.1, hI.2⟩
            case measure => simp [intOf]; omega
        · have g1 : (q.to == to) = false := by simpa using e1
          have HS := Lib.hid (readyL_no (to := to) hget.out (fun h => e1 h.1))
          clear e1
          go_wp2
          go_roundw
          case rel => exact ⟨k + 1, by omega, by go_num, by rw [HS.out]; exact hI.1, hI.2⟩
          case measure => simp [intOf]; omega
      · obtain rfl : k = l.length := by omega
        go_wp2
        go_ret2
        rw [HR.out]
        have h7 := hI.1
        rw [List.take_length] at h7
        exact ⟨_, rfl, sl_of_means (ints_mean w _) (bel_tr hb1 hI.2) h7, bel_tr hb1 hI.2⟩
end Go.Proofs.Yteonfoaemljndaa
