/- The error of a bound and of a zone, as the program and as the reference find them. -/
import Derived.Test.YtgecbjjcjemcgaaProg
import Derived.Test.YtgecbjjcjemcgaaDbase
namespace Go.Proofs.Ytgecbjjcjemcgaa
open Go.RowKit

def boundBad (n : Int) (b : Bd) : Bool := decide (b.x < 0) || (decide (n ≤ b.x) || (decide (b.y < 0) || (decide (n ≤ b.y) || (decide (b.most < -1125899906842624) || decide (1125899906842624 < b.most)))))
def boundErr (n : Int) (b : Bd) : Int := if boundBad n b = true then 2 else 0
def bdsErr (n : Int) : List Bd → Int
  | [] => 0
  | b :: l => if boundErr n b = 0 then bdsErr n l else boundErr n b
def nBad (n : Int) : Bool := decide (n < 1) || decide (64 < n)
def zoneErr (n : Int) (bs : List Bd) : Int := if nBad n = true then 2 else if 256 < (bs.length : Int) then 5 else bdsErr n bs

theorem bdsErr_stop (n : Int) (l : List Bd) (k : Nat) (x : Bd) (h : l[k]? = some x) (h0 : boundErr n x ≠ 0) (hi : bdsErr n (l.drop k) = bdsErr n l) : boundErr n x = bdsErr n l := by
  obtain ⟨hk, rfl⟩ := List.getElem?_eq_some_iff.1 h
  rw [← hi, List.drop_eq_getElem_cons hk, bdsErr, if_neg h0]
theorem bdsErr_go (n : Int) (l : List Bd) (k : Nat) (x : Bd) (h : l[k]? = some x) (h0 : boundErr n x = 0) (hi : bdsErr n (l.drop k) = bdsErr n l) : bdsErr n (l.drop (k + 1)) = bdsErr n l := by
  obtain ⟨hk, rfl⟩ := List.getElem?_eq_some_iff.1 h
  rw [← hi, List.drop_eq_getElem_cons hk, bdsErr, if_pos h0]
theorem bdsErr_end (n : Int) (l : List Bd) (k : Nat) (h : l.length ≤ k) (hi : bdsErr n (l.drop k) = bdsErr n l) : 0 = bdsErr n l := by
  rw [← hi, List.drop_of_length_le h, bdsErr]
theorem zoneErr_n {n : Int} {bs : List Bd} (h : nBad n = true) : zoneErr n bs = 2 := by unfold zoneErr; rw [if_pos h]
theorem zoneErr_many {n : Int} {bs : List Bd} (h : ¬ nBad n = true) (h2 : 256 < (bs.length : Int)) : zoneErr n bs = 5 := by unfold zoneErr; rw [if_neg h, if_pos h2]
theorem zoneErr_bds {n : Int} {bs : List Bd} (h : ¬ nBad n = true) (h2 : ¬ 256 < (bs.length : Int)) : zoneErr n bs = bdsErr n bs := by unfold zoneErr; rw [if_neg h, if_neg h2]

theorem check_any (n : Int) (b : Bd) (w : World) : Calls Try.prog 60 #[.int .i64 n, bdV b] w fun e w' => e = .returned (.int .i64 (boundErr n b)) ∧ Below w.heap.size w w' := by
  unfold bdV
  go_enter Try.func60, Try.ntmps60
  go_wp2
  all_goals
    go_ret
    refine ⟨?_, bel_one _ _⟩
    congr 2
    unfold boundErr boundBad
    first | (simp_all; done) | (simp_all; omega)

theorem rbound_any (n : Int) (b : Bd) (w : World) : Calls Try.prog 61 #[.int .i64 n, bdV b] w fun e w' => e = .returned (.int .i64 (boundErr n b)) ∧ Below w.heap.size w w' := by
  unfold bdV
  go_enter Try.func61, Try.ntmps61
  go_wp2
  all_goals
    go_ret
    refine ⟨?_, bel_one _ _⟩
    congr 2
    unfold boundErr boundBad
    first | (simp_all; done) | (simp_all; omega)

set_option maxRecDepth 100000 in
set_option maxHeartbeats 1000000 in
theorem zcheck_any (n : Int) (bs : List Bd) (v : Value) (w : World) (hl : IsBds w v bs) : Calls Try.prog 32 #[zoneV n v] w fun e w' => e = .returned (.int .i64 (zoneErr n bs)) ∧ Below w.heap.size w w' := by
  unfold zoneV
  have HL := Lib.hid hl
  obtain ⟨A, c, rfl, h1, h2, hat⟩ := hl
  have hn := len_i64 h1 h2
  have HA := Lib.hid hat
  clear hat h1 h2
  by_cases hb : nBad n = true
  · have HR := Lib.hid (zoneErr_n (bs := bs) hb)
    have hb' : n < 1 ∨ 64 < n := by simpa [nBad] using hb
    clear hb
    by_cases h1 : n < 1
    · go_enter Try.func32, Try.ntmps32
      go_wp2
      go_ret
      rw [HR.out]
      exact ⟨rfl, bel_one _ _⟩
    · have h2 : 64 < n := by omega
      clear hb'
      go_enter Try.func32, Try.ntmps32
      go_wp2
      go_ret
      rw [HR.out]
      exact ⟨rfl, bel_one _ _⟩
  · have hb' : ¬ n < 1 ∧ ¬ 64 < n := by simpa [nBad] using hb
    by_cases h5 : 256 < (bs.length : Int)
    · have HR := Lib.hid (zoneErr_many hb h5)
      clear hb
      obtain ⟨h1, h2⟩ := hb'
      go_enter Try.func32, Try.ntmps32
      go_wp2
      go_ret
      rw [HR.out]
      exact ⟨rfl, bel_one _ _⟩
    · have HR := Lib.hid (zoneErr_bds hb h5)
      clear hb
      obtain ⟨h1, h2⟩ := hb'
      go_enter Try.func32, Try.ntmps32
      go_wp2
      go_loopw [23] (fun i wr => ∃ k : Nat, k ≤ bs.length ∧ i = .int .i64 k ∧ Hid (bdsErr n (bs.drop k) = bdsErr n bs) ∧ Below (w.alloc (.cells #[.int .i64 n, .slice A bs.length c] 24)).heap.size (w.alloc (.cells #[.int .i64 n, .slice A bs.length c] 24)) wr) (fun i _ => bs.length - (intOf i).toNat)
      case atStart => exact ⟨0, Nat.zero_le _, rfl, rfl, Below.refl _ _⟩
      case round =>
        obtain ⟨k, hk, rfl, hi, hb⟩ := hrel
        by_cases hlt : k < bs.length
        · obtain ⟨b, o, rfl, c0, c1, c2⟩ := HA.out k bs[k] (List.getElem?_eq_getElem hlt)
          replace c0 := cell_via hb c0
          replace c1 := cell_via hb c1
          replace c2 := cell_via hb c2
          obtain ⟨hz, -⟩ := new_cells hb
          have hzl := World.block_lt_of_cell? wr _ (hz 0)
          simp only at hzl
          go_wp2_with (go_at_call 60; refine (check_any n bs[k] _).mono ?_; rintro e w' ⟨rfl, hb2⟩)
          · rename_i hne
            go_ret
            rw [HR.out]
            exact ⟨congrArg (fun n => Ending.returned (.int .i64 n)) (bdsErr_stop n bs k _ (List.getElem?_eq_getElem hlt) (by simpa using hne) hi.out), bel_tr (bel_tr (bel_one _ _) hb) (bel_tr (bel_one _ _) hb2)⟩
          · rename_i hne
            go_roundw
            case rel => exact ⟨k + 1, by omega, by go_num, bdsErr_go n bs k _ (List.getElem?_eq_getElem hlt) (by simpa using hne) hi.out, bel_tr hb (bel_tr (bel_one _ _) hb2)⟩
            case measure => simp [intOf]; omega
        · go_wp2
          go_ret
          rw [HR.out]
          exact ⟨congrArg (fun n => Ending.returned (.int .i64 n)) (bdsErr_end n bs k (by omega) hi.out), bel_tr (bel_one _ _) hb⟩

set_option maxRecDepth 100000 in
set_option maxHeartbeats 1000000 in
theorem rzcheck_any (n : Int) (bs : List Bd) (v : Value) (w : World) (hl : IsBds w v bs) : Calls Try.prog 33 #[zoneV n v] w fun e w' => e = .returned (.int .i64 (zoneErr n bs)) ∧ Below w.heap.size w w' := by
  unfold zoneV
  have HL := Lib.hid hl
  obtain ⟨A, c, rfl, h1, h2, hat⟩ := hl
  have hn := len_i64 h1 h2
  have HA := Lib.hid hat
  clear hat h1 h2
  by_cases hb : nBad n = true
  · have HR := Lib.hid (zoneErr_n (bs := bs) hb)
    have hb' : n < 1 ∨ 64 < n := by simpa [nBad] using hb
    clear hb
    by_cases h1 : n < 1
    · go_enter Try.func33, Try.ntmps33
      go_wp2
      go_ret
      rw [HR.out]
      exact ⟨rfl, bel_one _ _⟩
    · have h2 : 64 < n := by omega
      clear hb'
      go_enter Try.func33, Try.ntmps33
      go_wp2
      go_ret
      rw [HR.out]
      exact ⟨rfl, bel_one _ _⟩
  · have hb' : ¬ n < 1 ∧ ¬ 64 < n := by simpa [nBad] using hb
    by_cases h5 : 256 < (bs.length : Int)
    · have HR := Lib.hid (zoneErr_many hb h5)
      clear hb
      obtain ⟨h1, h2⟩ := hb'
      go_enter Try.func33, Try.ntmps33
      go_wp2
      go_ret
      rw [HR.out]
      exact ⟨rfl, bel_one _ _⟩
    · have HR := Lib.hid (zoneErr_bds hb h5)
      clear hb
      obtain ⟨h1, h2⟩ := hb'
      go_enter Try.func33, Try.ntmps33
      go_wp2
      go_loopw [3] (fun i wr => ∃ k : Nat, k ≤ bs.length ∧ i = .int .i64 k ∧ Hid (bdsErr n (bs.drop k) = bdsErr n bs) ∧ Below (w.alloc (.cells #[.int .i64 n, .slice A bs.length c] 24)).heap.size (w.alloc (.cells #[.int .i64 n, .slice A bs.length c] 24)) wr) (fun i _ => bs.length - (intOf i).toNat)
      case atStart => exact ⟨0, Nat.zero_le _, rfl, rfl, Below.refl _ _⟩
      case round =>
        obtain ⟨k, hk, rfl, hi, hb⟩ := hrel
        obtain ⟨hz, -⟩ := new_cells hb
        have z0 : wr.cell? ⟨w.heap.size, 0, none⟩ = some (.int .i64 n) := hz 0
        have z1 : wr.cell? ⟨w.heap.size, 1, none⟩ = some (.slice A bs.length c) := hz 1
        clear hz
        by_cases hlt : k < bs.length
        · obtain ⟨b, o, rfl, c0, c1, c2⟩ := HA.out k bs[k] (List.getElem?_eq_getElem hlt)
          replace c0 := cell_via hb c0
          replace c1 := cell_via hb c1
          replace c2 := cell_via hb c2
          have hk' : (k : Int) < (bs.length : Int) := by omega
          obtain ⟨en, hen⟩ : ∃ e, boundErr n bs[k] = e := ⟨_, rfl⟩
          have HEN := Lib.hid hen
          clear hen
          go_wp2_with fail
          refine wp_region_F (fun W => W.cell? ⟨w.heap.size, 0, none⟩ = some (.int .i64 n) ∧ W.cell? ⟨w.heap.size, 1, none⟩ = some (.slice (some ⟨b, o, none⟩) bs.length c) ∧ W.cell? ⟨b, o + k * 3, none⟩ = some (.int .i64 bs[k].x) ∧ W.cell? ⟨b, o + k * 3 + 1, none⟩ = some (.int .i64 bs[k].y) ∧ W.cell? ⟨b, o + k * 3 + 2, none⟩ = some (.int .i64 bs[k].most)) (by repeat (first | exact grows_cell _ _ _ | exact grows_true | refine grows_and ?_ ?_)) (by kernel_rfl) (by kernel_rfl) ?hF ?_; (case hF => (first | exact ⟨‹_›, ‹_›⟩ | (go_simp; done) | (simp [*]; done))); intro hne hxx; have hG : Hid (Grows (fun W => W.cell? ⟨w.heap.size, 0, none⟩ = some (.int .i64 n) ∧ W.cell? ⟨w.heap.size, 1, none⟩ = some (.slice (some ⟨b, o, none⟩) bs.length c) ∧ W.cell? ⟨b, o + k * 3, none⟩ = some (.int .i64 bs[k].x) ∧ W.cell? ⟨b, o + k * 3 + 1, none⟩ = some (.int .i64 bs[k].y) ∧ W.cell? ⟨b, o + k * 3 + 2, none⟩ = some (.int .i64 bs[k].most))) := (by repeat (first | exact grows_cell _ _ _ | exact grows_true | refine grows_and ?_ ?_)); (repeat (go_big_quiet_step ((go_at_call 61; exact cls_callB hG (fun W _ => HEN.out ▸ rbound_any n bs[k] W))))); clear hG hxx hne; refine wpQuiet_nil ?_; rintro _ ⟨⟨w', hb', hF'⟩, rfl⟩
          clear hF'
          by_cases h0 : en = 0
          · have g0 : (en != 0) = false := by simpa using h0
            have HH : Hid (boundErr n bs[k] = 0) := Lib.hid (HEN.out.trans h0)
            clear h0
            go_wp2_with fail
            go_roundw
            case rel => exact ⟨k + 1, by omega, by go_num, bdsErr_go n bs k _ (List.getElem?_eq_getElem hlt) HH.out hi.out, bel_tr hb hb'⟩
            case measure => simp [intOf]; omega
          · have g0 : (en != 0) = true := by simpa using h0
            have HH : Hid (boundErr n bs[k] ≠ 0) := Lib.hid (by rw [HEN.out]; exact h0)
            clear h0
            go_wp2_with fail
            go_ret
            rw [HR.out, ← HEN.out]
            exact ⟨congrArg (fun n => Ending.returned (.int .i64 n)) (bdsErr_stop n bs k _ (List.getElem?_eq_getElem hlt) HH.out hi.out), bel_tr (bel_tr (bel_one _ _) hb) hb'⟩
        · go_wp2
          go_ret
          rw [HR.out]
          exact ⟨congrArg (fun n => Ending.returned (.int .i64 n)) (bdsErr_end n bs k (by omega) hi.out), bel_tr (bel_one _ _) hb⟩
end Go.Proofs.Ytgecbjjcjemcgaa
