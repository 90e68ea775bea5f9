/- The laws' own tests: small ledgers, few changes. -/
import Derived.Test.YtlofjcicpkfcdaaDoorLfew
import Derived.Test.YtlofjcicpkfcdaaDoorLidx
import Derived.Shelf.Abstract
namespace Go.Proofs.YtlofjcicpkfcdaaDoor
open Go.RowKit Go.Shelf

def bigN (x : Ety) : Bool := decide (x.n < -50) || decide (50 < x.n)
def badL (l : List Ety) : Bool := !fewL l || (ledErr l != 0) || l.any bigN
def longC (c : Chg) : Bool := decide (6 < (c.bs.length : Int))
def fewC (cs : List Chg) : Bool := decide ((cs.length : Int) ≤ 12) && !cs.any longC

theorem bigP_any (q n : Int) (A : Option Addr) (m c : Nat) (w : World) : Calls Tryd.prog 42 #[.agg #[.int .i64 q, .slice A m c, .int .i64 n]] w fun e w' => e = .returned (.bool (decide (n < -50) || decide (50 < n))) ∧ Below w.heap.size w w' := by
  by_cases h : n < -50
  · have h' : decide (n < -50) = true := by simpa using h
    go_enter Tryd.func42, Tryd.ntmps42
    go_wp2
    go_ret
    exact ⟨by simp [h'], (by repeat (first | exact Below.refl _ _ | assumption | refine Below.drew ?_ | refine bel_al ?_ _ | refine bel_set ?_ (by omega) _ | refine bel_tr ?_ (by assumption)))⟩
  · have h' : decide (n < -50) = false := by simpa using h
    go_enter Tryd.func42, Tryd.ntmps42
    go_wp2
    go_ret
    exact ⟨by simp [h'], (by repeat (first | exact Below.refl _ _ | assumption | refine Below.drew ?_ | refine bel_al ?_ _ | refine bel_set ?_ (by omega) _ | refine bel_tr ?_ (by assumption)))⟩
theorem enter_bigP (args : Array Value) (W : World) : (callFunc 42 args).run Tryd.prog W = .ok (.enter 42 args) W := enters_of Tryd.func42 (by kernel_rfl) rfl args W

set_option maxHeartbeats 1000000 in
theorem badL_any (l : List Ety) (v : Value) (w : World) (hl : IsEnts w v l) : Calls Tryd.prog 39 #[v] w fun e w' => e = .returned (.bool (badL l)) ∧ Below w.heap.size w w' := by
  have hcon := fun W (hW : Below w.heap.size w W) => containsEnts_any 42 [] bigN l v W (hl.stays entAt_stays hW) enter_bigP (fun W x u _ hx hu => by
    obtain ⟨A, c, rfl, -⟩ := hu
    exact bigP_any x.q x.n A _ c W)
  have HC := Lib.hid hcon
  have HL := Lib.hid hl
  obtain ⟨A, c, rfl, -⟩ := hl
  clear hcon
  unfold badL
  obtain ⟨f, hf⟩ : ∃ f, fewL l = f := ⟨_, rfl⟩
  obtain ⟨e1, he⟩ : ∃ e, ledErr l = e := ⟨_, rfl⟩
  obtain ⟨b, hb⟩ : ∃ b, l.any bigN = b := ⟨_, rfl⟩
  have HF := Lib.hid hf
  have HE := Lib.hid he
  have HB := Lib.hid hb
  rw [hf, he, hb]
  clear hf he hb
  cases f with
  | false =>
    go_enter Tryd.func39, Tryd.ntmps39
    go_wp2_with (go_at_call 22; refine (rfew_any l _ _ HL.out).mono ?_; rw [HF.out]; rintro e w' ⟨rfl, rfl⟩)
    go_ret
    exact ⟨rfl, Below.refl _ _⟩
  | true =>
    by_cases h0 : e1 = 0
    · subst h0
      go_enter Tryd.func39, Tryd.ntmps39
      go_wp2_with (first | (go_at_call 22; refine (rfew_any l _ _ HL.out).mono ?_; rw [HF.out]; rintro e w' ⟨rfl, rfl⟩) | (go_at_call 40; refine (rlcheck_any l _ w HL.out).mono ?_; rw [HE.out]; rintro e w2 ⟨rfl, hb2⟩) | (go_at_call 41; refine (HC.out w2 hb2).mono ?_; rw [HB.out]; rintro e w3 ⟨rfl, hb3⟩))
      go_ret
      exact ⟨by simp, bel_tr hb2 hb3⟩
    · have h0' : (e1 != 0) = true := by simpa using h0
      clear h0
      go_enter Tryd.func39, Tryd.ntmps39
      go_wp2_with (first | (go_at_call 22; refine (rfew_any l _ _ HL.out).mono ?_; rw [HF.out]; rintro e w' ⟨rfl, rfl⟩) | (go_at_call 40; refine (rlcheck_any l _ w HL.out).mono ?_; rw [HE.out]; rintro e w2 ⟨rfl, hb2⟩))
      go_ret
      exact ⟨by simp [h0'], hb2⟩
theorem enter_badL (args : Array Value) (W : World) : (callFunc 39 args).run Tryd.prog W = .ok (.enter 39 args) W := enters_of Tryd.func39 (by kernel_rfl) rfl args W

theorem small_any (ls : List (List Ety)) (v : Value) (w : World) (hl : IsLeds w v ls) : Calls Tryd.prog 8 #[v] w fun e w' => e = .returned (.bool (!ls.any badL)) ∧ Below w.heap.size w w' := by
  have hcon := containsLeds_any 39 [] badL ls v w hl enter_badL (fun W x u _ hx hu => badL_any x u W hu)
  have HC := Lib.hid hcon
  obtain ⟨A, c, rfl, -⟩ := hl
  clear hcon
  obtain ⟨b, hb⟩ : ∃ b, ls.any badL = b := ⟨_, rfl⟩
  have HB := Lib.hid hb
  rw [hb]
  clear hb
  go_enter Tryd.func8, Tryd.ntmps8
  go_wp2_with (go_at_call 38; refine HC.out.mono ?_; rw [HB.out]; rintro e w3 ⟨rfl, hb3⟩)
  go_ret
  exact ⟨rfl, hb3⟩

theorem longP_any (s q : Int) (A : Option Addr) (m c : Nat) (w : World) (hm : (m : Int) ≤ 9223372036854775807) : Calls Tryd.prog 53 #[.agg #[.int .i64 s, .int .i64 q, .slice A m c]] w fun e w' => e = .returned (.bool (decide (6 < (m : Int)))) ∧ Below w.heap.size w w' := by
  go_enter Tryd.func53, Tryd.ntmps53
  go_wp2
  go_ret
  exact ⟨rfl, (by repeat (first | exact Below.refl _ _ | assumption | refine Below.drew ?_ | refine bel_al ?_ _ | refine bel_set ?_ (by omega) _ | refine bel_tr ?_ (by assumption)))⟩
theorem enter_longP (args : Array Value) (W : World) : (callFunc 53 args).run Tryd.prog W = .ok (.enter 53 args) W := enters_of Tryd.func53 (by kernel_rfl) rfl args W
set_option maxHeartbeats 1000000 in
theorem fewC_any (cs : List Chg) (v : Value) (w : World) (hl : IsChgs w v cs) : Calls Tryd.prog 16 #[v] w fun e w' => e = .returned (.bool (fewC cs)) ∧ Below w.heap.size w w' := by
  have hcon := containsChgs_any 53 [] longC cs v w hl enter_longP (fun W x u _ hx hu => by
    obtain ⟨A, c, rfl, h1, h2, -⟩ := hu
    exact longP_any x.sg x.q A _ c W (len_i64 h1 h2))
  have HC := Lib.hid hcon
  obtain ⟨A, c, rfl, h1, h2, -⟩ := hl
  have hn := len_i64 h1 h2
  clear hcon h1 h2
  unfold fewC
  obtain ⟨b, hb⟩ : ∃ b, cs.any longC = b := ⟨_, rfl⟩
  have HB := Lib.hid hb
  rw [hb]
  clear hb
  by_cases h : (cs.length : Int) ≤ 12
  · have h' : decide ((cs.length : Int) ≤ 12) = true := by simpa using h
    rw [h']
    go_enter Tryd.func16, Tryd.ntmps16
    go_wp2_with (go_at_call 13; refine HC.out.mono ?_; rw [HB.out]; rintro e w3 ⟨rfl, hb3⟩)
    go_ret
    exact ⟨by simp, hb3⟩
  · have h' : decide ((cs.length : Int) ≤ 12) = false := by simpa using h
    rw [h']
    go_enter Tryd.func16, Tryd.ntmps16
    go_wp2_with fail
    go_ret
    exact ⟨by simp, Below.refl _ _⟩
end Go.Proofs.YtlofjcicpkfcdaaDoor
