/- Begin, as the program and as the reference do it. -/
import Derived.Test.YteonfoaemljndaaWith
namespace Go.Proofs.Yteonfoaemljndaa
open Go.RowKit

def begBad (r s : Int) : Bool := decide (r < 0) || (decide (8 < r) || (decide (s < 0) || decide (8 < s)))
def bq (i k : Nat) : Queue := { frm := i, to := k, items := [] }
def begRows (s : Nat) : Nat → List Queue
  | 0 => []
  | k + 1 => begRows s k ++ (List.range s).map (bq k)
def begPart (s k j : Nat) : List Queue := begRows s k ++ (List.range j).map (bq k)
def beginR (r s : Int) : List Queue × Int := if begBad r s = true then ([], 2) else (begRows s.toNat r.toNat, 0)
theorem beginR_bad {r s : Int} (h : begBad r s = true) : beginR r s = ([], 2) := by unfold beginR; rw [if_pos h]
theorem beginR_ok {r s : Int} (h : ¬ begBad r s = true) : beginR r s = (begRows s.toNat r.toNat, 0) := by unfold beginR; rw [if_neg h]
theorem begPart_zero (s k : Nat) : begPart s k 0 = begRows s k := by simp [begPart]
theorem begPart_succ (s k j : Nat) : begPart s k (j + 1) = begPart s k j ++ [bq k j] := by simp [begPart, List.range_succ]
theorem begPart_end (s k : Nat) : begPart s k s = begRows s (k + 1) := rfl
theorem begRows_length (s : Nat) : ∀ k, (begRows s k).length = k * s
  | 0 => by simp [begRows]
  | k + 1 => by simp [begRows, begRows_length s k, Nat.add_mul]
theorem begPart_length (s k j : Nat) : (begPart s k j).length = k * s + j := by simp [begPart, begRows_length]

def qn (l : List Queue) : List Value := l.flatMap fun q => [.int .i64 q.frm, .int .i64 q.to, .slice none 0 0]
theorem qn_app (l m : List Queue) : qn (l ++ m) = qn l ++ qn m := by simp [qn]
theorem qn_one (q : Queue) : qn [q] = [.int .i64 q.frm, .int .i64 q.to, .slice none 0 0] := rfl
theorem qn_means (w : World) : ∀ l : List Queue, (∀ q ∈ l, q.items = []) → Means QueueAt 3 w (qn l) l
  | [], _ => Means.nil
  | q :: l, h => by
    have h1 : Means QueueAt 3 w (qn [q]) [q] := ⟨rfl, by simp [qn, Value.oneCell'], fun W b o _ hc k x hk => by
      cases k with
      | zero =>
        simp at hk; subst hk
        refine ⟨.slice none 0 0, by rw [h q (by simp)]; exact Sl.nil _ _ _ _ _ (Nat.zero_le _), ?_, ?_, ?_⟩
        · simpa using hc 0 _ rfl
        · simpa using hc 1 _ rfl
        · simpa using hc 2 _ rfl
      | succ k => simp at hk⟩
    exact h1.app (qn_means w l (fun x hx => h x (by simp [hx])))
theorem begRows_empty (s : Nat) : ∀ k, ∀ q ∈ begRows s k, q.items = []
  | 0, q, h => by simp [begRows] at h
  | k + 1, q, h => by
    simp only [begRows, List.mem_append, List.mem_map] at h
    rcases h with h | ⟨j, _, rfl⟩
    · exact begRows_empty s k q h
    · rfl

theorem src_new (w : World) (cs : List Value) (t n sz : Nat) (hl : cs.length = n * sz) (h1 : ∀ u ∈ cs, u.oneCell' = true) : Src (w.alloc (.cells cs.toArray t)) (some ⟨w.heap.size, 0, none⟩) n sz cs :=
  ⟨hl, h1, fun _ => ⟨w.heap.size, 0, rfl, fun j u hj => by rw [Nat.zero_add, blk_cell (heap_alloc_new w _)]; exact hj⟩⟩
theorem slice_own {w : World} {base e sz n : Nat} {v : Value} {xs : List Value} (h : w.ownsRow base e sz v n xs) : ∃ A c, v = .slice A n c := by
  rcases h.2 with ⟨rfl, rfl⟩ | ⟨g, cap, cur, rfl, _⟩
  · exact ⟨none, 0, rfl⟩
  · exact ⟨_, _, rfl⟩

set_option maxRecDepth 100000 in
set_option maxHeartbeats 1000000 in
theorem begin_any (r s : Int) (w : World) : Calls Try.prog 21 #[.int .i64 r, .int .i64 s] w (QsRet w (beginR r s)) := by
  by_cases hbad : begBad r s = true
  · have HR := Lib.hid (beginR_bad hbad)
    have hbad' : r < 0 ∨ 8 < r ∨ s < 0 ∨ 8 < s := by simpa [begBad] using hbad
    clear hbad
    go_enter Try.func21, Try.ntmps21
    go_wp2_with fail
    all_goals first
      | (exfalso; omega)
      | (go_ret2
         rw [HR.out]
         exact ⟨_, rfl, nil_queues _, Below.refl _ _⟩)
  · have HR := Lib.hid (beginR_ok hbad)
    have h1 : 0 ≤ r := by simp [begBad] at hbad; omega
    have h2 : r ≤ 8 := by simp [begBad] at hbad; omega
    have h3 : 0 ≤ s := by simp [begBad] at hbad; omega
    have h4 : s ≤ 8 := by simp [begBad] at hbad; omega
    clear hbad
    obtain ⟨R, rfl⟩ := Int.eq_ofNat_of_zero_le h1
    obtain ⟨S, rfl⟩ := Int.eq_ofNat_of_zero_le h3
    simp only [Int.toNat_natCast] at HR
    obtain ⟨j0, hj0, hy0, hy1, hy2⟩ := info_parts info_queue
    go_enter Try.func21, Try.ntmps21
    go_wp2
    go_loopw [6, 24] (fun v i wr => ∃ k : Nat, k ≤ R ∧ i = .int .i64 k ∧ Hid (wr.ownsRow w.heap.size 69 3 v (begRows S k).length (qn (begRows S k)) ∧ Below w.heap.size w wr)) (fun _ i _ => R - (intOf i).toNat)
    case atStart => exact ⟨0, Nat.zero_le _, rfl, ⟨rfl, .inl ⟨rfl, rfl⟩⟩, Below.refl _ _⟩
    case round =>
      obtain ⟨k, hk, rfl, hI⟩ := hrel
      by_cases hlt : k < R
      · obtain ⟨wo, rfl⟩ : ∃ wo : World, wo = wr := ⟨_, rfl⟩
        go_wp2
        go_loopw [6, 28] (fun v i wr => ∃ j : Nat, j ≤ S ∧ i = .int .i64 j ∧ Hid (wr.ownsRow w.heap.size 69 3 v (begPart S k j).length (qn (begPart S k j)) ∧ Below w.heap.size w wr)) (fun _ i _ => S - (intOf i).toNat)
        case atStart => exact ⟨0, Nat.zero_le _, rfl, by rw [begPart_zero]; exact hI.1, hI.2⟩
        case round =>
          obtain ⟨j, hj, rfl, hJ⟩ := hrel
          have hlen := begPart_length S k j
          have hks : k * S ≤ 64 := by have h5 : k ≤ 8 := by omega
                                      have h6 : S ≤ 8 := by omega
                                      have := Nat.mul_le_mul h5 h6
                                      omega
          have hlen2 : (begPart S k j).length + 1 ≤ 1000 := by omega
          clear hlen hks
          by_cases hlt2 : j < S
          · go_wp2_with (at_builtin; refine wpList_app _ rfl (.tmp 31) (.tmp 35) 22 rfl w.heap.size 69 j0 _ 3 40 Try.underlying22 hj0 hy0 hy1 hy2 rfl (by decide) _ (begPart S k j).length (qn (begPart S k j)) rfl (ownsRow_below hJ.1 (bel_al (Below.refl _ _) _)) (some ⟨wr.heap.size, 0, none⟩) 1 1 [.int .i64 k, .int .i64 j, .slice none 0 0] rfl (src_new wr _ _ 1 3 rfl (by simp [Value.oneCell'])) (by unfold maxLen; omega) (by omega) (by have := hJ.2.size; simp; omega) ?_; intro v1 w1 hown1 hg1 hloc1; have HO := Lib.hid hown1; have HB := Lib.hid ((bel_al hJ.2 (.cells #[.int .i64 k, .int .i64 j, .slice none 0 0] 69)).trans (grown_below hg1 (by have := hJ.2.size; simp; omega) (fun g h => (ownsRow_lt hJ.1 h).1))); obtain ⟨A1, c1, rfl⟩ := slice_own hown1; clear hown1 hg1 hloc1)
            go_roundw
            case rel => exact ⟨j + 1, by omega, by go_num, by rw [begPart_succ, qn_app, qn_one, List.length_append]; exact HO.out, HB.out⟩
            case measure => simp [intOf]; omega
          · obtain rfl : j = S := by omega
            obtain ⟨A1, c1, hA1⟩ := slice_own hJ.1
            go_wp2
            go_roundw
            case rel => exact ⟨k + 1, by omega, by go_num, hJ⟩
            case measure => simp [intOf]; omega
      · obtain rfl : k = R := by omega
        go_wp2
        go_ret2
        rw [HR.out]
        exact ⟨_, rfl, sl_of_means (qn_means w _ (begRows_empty S k)) hI.2 hI.1, hI.2⟩

set_option maxRecDepth 100000 in
set_option maxHeartbeats 1000000 in
theorem rbegin_any (r s : Int) (w : World) : Calls Try.prog 22 #[.int .i64 r, .int .i64 s] w (QsRet w (beginR r s)) := by
  by_cases hbad : begBad r s = true
  · have HR := Lib.hid (beginR_bad hbad)
    have hbad' : r < 0 ∨ 8 < r ∨ s < 0 ∨ 8 < s := by simpa [begBad] using hbad
    clear hbad
    go_enter Try.func22, Try.ntmps22
    go_wp2_with fail
    all_goals first
      | (exfalso; omega)
      | (go_ret2
         rw [HR.out]
         exact ⟨_, rfl, nil_queues _, Below.refl _ _⟩)
  · have HR := Lib.hid (beginR_ok hbad)
    have h1 : 0 ≤ r := by simp [begBad] at hbad; omega
    have h2 : r ≤ 8 := by simp [begBad] at hbad; omega
    have h3 : 0 ≤ s := by simp [begBad] at hbad; omega
    have h4 : s ≤ 8 := by simp [begBad] at hbad; omega
    clear hbad
    obtain ⟨R, rfl⟩ := Int.eq_ofNat_of_zero_le h1
    obtain ⟨S, rfl⟩ := Int.eq_ofNat_of_zero_le h3
    simp only [Int.toNat_natCast] at HR
    obtain ⟨j0, hj0, hy0, hy1, hy2⟩ := info_parts info_queue
    go_enter Try.func22, Try.ntmps22
    go_wp2
    go_loopw [6, 7] (fun v i wr => ∃ k : Nat, k ≤ R ∧ i = .int .i64 k ∧ Hid (wr.ownsRow w.heap.size 69 3 v (begRows S k).length (qn (begRows S k)) ∧ Below w.heap.size w wr)) (fun _ i _ => R - (intOf i).toNat)
    case atStart => exact ⟨0, Nat.zero_le _, rfl, ⟨rfl, .inl ⟨rfl, rfl⟩⟩, Below.refl _ _⟩
    case round =>
      obtain ⟨k, hk, rfl, hI⟩ := hrel
      by_cases hlt : k < R
      · obtain ⟨wo, rfl⟩ : ∃ wo : World, wo = wr := ⟨_, rfl⟩
        go_wp2
        go_loopw [6, 8] (fun v i wr => ∃ j : Nat, j ≤ S ∧ i = .int .i64 j ∧ Hid (wr.ownsRow w.heap.size 69 3 v (begPart S k j).length (qn (begPart S k j)) ∧ Below w.heap.size w wr)) (fun _ i _ => S - (intOf i).toNat)
        case atStart => exact ⟨0, Nat.zero_le _, rfl, by rw [begPart_zero]; exact hI.1, hI.2⟩
        case round =>
          obtain ⟨j, hj, rfl, hJ⟩ := hrel
          have hlen := begPart_length S k j
          have hks : k * S ≤ 64 := by have h5 : k ≤ 8 := by omega
                                      have h6 : S ≤ 8 := by omega
                                      have := Nat.mul_le_mul h5 h6
                                      omega
          have hlen2 : (begPart S k j).length + 1 ≤ 1000 := by omega
          clear hlen hks
          by_cases hlt2 : j < S
          · go_wp2_with (at_builtin; refine wpList_app _ rfl (.tmp 33) (.tmp 37) 22 rfl w.heap.size 69 j0 _ 3 40 Try.underlying22 hj0 hy0 hy1 hy2 rfl (by decide) _ (begPart S k j).length (qn (begPart S k j)) rfl (ownsRow_below hJ.1 (bel_al (Below.refl _ _) _)) (some ⟨wr.heap.size, 0, none⟩) 1 1 [.int .i64 k, .int .i64 j, .slice none 0 0] rfl (src_new wr _ _ 1 3 rfl (by simp [Value.oneCell'])) (by unfold maxLen; omega) (by omega) (by have := hJ.2.size; simp; omega) ?_; intro v1 w1 hown1 hg1 hloc1; have HO := Lib.hid hown1; have HB := Lib.hid ((bel_al hJ.2 (.cells #[.int .i64 k, .int .i64 j, .slice none 0 0] 69)).trans (grown_below hg1 (by have := hJ.2.size; simp; omega) (fun g h => (ownsRow_lt hJ.1 h).1))); obtain ⟨A1, c1, rfl⟩ := slice_own hown1; clear hown1 hg1 hloc1)
            go_roundw
            case rel => exact ⟨j + 1, by omega, by go_num, by rw [begPart_succ, qn_app, qn_one, List.length_append]; exact HO.out, HB.out⟩
            case measure => simp [intOf]; omega
          · obtain rfl : j = S := by omega
            obtain ⟨A1, c1, hA1⟩ := slice_own hJ.1
            go_wp2
            go_roundw
            case rel => exact ⟨k + 1, by omega, by go_num, hJ⟩
            case measure => simp [intOf]; omega
      · obtain rfl : k = R := by omega
        go_wp2
        go_ret2
        rw [HR.out]
        exact ⟨_, rfl, sl_of_means (qn_means w _ (begRows_empty S k)) hI.2 hI.1, hI.2⟩
end Go.Proofs.Yteonfoaemljndaa
