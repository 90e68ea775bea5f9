/- The laws' own tests: small ledgers, few changes. -/
import Derived.Test.YtlofjcicpkfcdaaGreatDoorLfew
import Derived.Test.YtlofjcicpkfcdaaGreatDoorLidx
import Derived.Shelf.Abstract
namespace Go.Proofs.YtlofjcicpkfcdaaGreatDoor
open Go.RowKit Go.Shelf

def bigN (x : Ety) : Bool := decide (x.n < -50) || decide (50 < x.n)
def badL (l : List Ety) : Bool := !fewL l || (ledErr l != 0) || l.any bigN
def longC (c : Chg) : Bool := decide (6 < (c.bs.length : Int))
def fewC (cs : List Chg) : Bool := decide ((cs.length : Int) ≤ 12) && !cs.any longC


theorem longP_any (s q : Int) (A : Option Addr) (m c : Nat) (w : World) (hm : (m : Int) ≤ 9223372036854775807) : Calls Tryz.prog 15 #[.agg #[.int .i64 s, .int .i64 q, .slice A m c]] w fun e w' => e = .returned (.bool (decide (6 < (m : Int)))) ∧ Below w.heap.size w w' := by
  go_enter Tryz.func15, Tryz.ntmps15
  go_wp2
  go_ret
  exact ⟨rfl, (by repeat (first | exact Below.refl _ _ | assumption | refine Below.drew ?_ | refine bel_al ?_ _ | refine bel_set ?_ (by omega) _ | refine bel_tr ?_ (by assumption)))⟩
theorem enter_longP (args : Array Value) (W : World) : (callFunc 15 args).run Tryz.prog W = .ok (.enter 15 args) W := enters_of Tryz.func15 (by kernel_rfl) rfl args W
set_option maxHeartbeats 1000000 in
theorem fewC_any (cs : List Chg) (v : Value) (w : World) (hl : IsChgs w v cs) : Calls Tryz.prog 5 #[v] w fun e w' => e = .returned (.bool (fewC cs)) ∧ Below w.heap.size w w' := by
  have hcon := containsChgs_any 15 [] longC cs v w hl enter_longP (fun W x u _ hx hu => by
    obtain ⟨A, c, rfl, h1, h2, -⟩ := hu
    exact longP_any x.sg x.q A _ c W (len_i64 h1 h2))
  have HC := Lib.hid hcon
  obtain ⟨A, c, rfl, h1, h2, -⟩ := hl
  have hn := len_i64 h1 h2
  clear hcon h1 h2
  unfold fewC
  obtain ⟨b, hb⟩ : ∃ b, cs.any longC = b := ⟨_, rfl⟩
  have HB := Lib.hid hb
  rw [hb]
  clear hb
  by_cases h : (cs.length : Int) ≤ 12
  · have h' : decide ((cs.length : Int) ≤ 12) = true := by simpa using h
    rw [h']
    go_enter Tryz.func5, Tryz.ntmps5
    go_wp2_with (go_at_call 14; refine HC.out.mono ?_; rw [HB.out]; rintro e w3 ⟨rfl, hb3⟩)
    go_ret
    exact ⟨by simp, hb3⟩
  · have h' : decide ((cs.length : Int) ≤ 12) = false := by simpa using h
    rw [h']
    go_enter Tryz.func5, Tryz.ntmps5
    go_wp2_with fail
    go_ret
    exact ⟨by simp, Below.refl _ _⟩
end Go.Proofs.YtlofjcicpkfcdaaGreatDoor
