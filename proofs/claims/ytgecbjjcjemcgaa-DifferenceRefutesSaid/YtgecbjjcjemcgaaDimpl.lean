/- Whether all models of a zone satisfy a bound, as the program finds it. -/
import Derived.Test.YtgecbjjcjemcgaaDrange
import Derived.Test.YtgecbjjcjemcgaaDindex
import Derived.StillTailTactics
namespace Go.Proofs.Ytgecbjjcjemcgaa
open Go.RowKit

/-- all models satisfy the bound -/
def hasB (n : Nat) (bs : List Bd) (b : Bd) : Bool :=
  if feas n (bs.map ed) = true then (match tight n (bs.map ed) b.x.toNat b.y.toNat with
    | some d => decide (d ≤ b.most)
    | none => false)
  else true
theorem hasB_none {n : Nat} {bs : List Bd} {b : Bd} (hf : feas n (bs.map ed) = true) (ht : tight n (bs.map ed) b.x.toNat b.y.toNat = none) : hasB n bs b = false := by unfold hasB; rw [if_pos hf, ht]
theorem hasB_some {n : Nat} {bs : List Bd} {b : Bd} {d : Int} (hf : feas n (bs.map ed) = true) (ht : tight n (bs.map ed) b.x.toNat b.y.toNat = some d) : hasB n bs b = decide (d ≤ b.most) := by unfold hasB; rw [if_pos hf, ht]
theorem hasB_no {n : Nat} {bs : List Bd} {b : Bd} (hf : feas n (bs.map ed) = false) : hasB n bs b = true := by unfold hasB; rw [hf]; rfl

theorem impl1_any (b : Bd) (W : World) : Calls Try.prog 78 #[bdV b] W fun e W' => e = .returned (.bool true) ∧ Below W.heap.size W W' := by
  unfold bdV
  go_enter Try.func78, Try.ntmps78
  go_wp2
  go_ret
  exact ⟨rfl, (by repeat (first | exact Below.refl _ _ | assumption | refine Below.drew ?_ | refine bel_al ?_ _ | refine bel_set ?_ (by omega) _ | refine bel_tr ?_ (by assumption)))⟩

set_option maxRecDepth 100000 in
set_option maxHeartbeats 2000000 in
theorem impl2_any (b : Bd) (n q gt gr : Nat) (o : Option Nat) (c : Int) (W : World) (hx : 0 ≤ b.x ∧ b.x < n) (hy : 0 ≤ b.y ∧ b.y < n)
    (hq : W.cell? ⟨q, 0, none⟩ = some (.slice (some ⟨gt, 0, none⟩) n n)) (h0 : W.cell? ⟨gt, b.x.toNat, none⟩ = some (.slice (some ⟨gr, 0, none⟩) n n)) (h1 : W.cell? ⟨gr, b.y.toNat, none⟩ = some (ptr o))
    (h2 : ∀ a, o = some a → W.cell? ⟨a, 0, none⟩ = some (.int .i64 c)) :
    Calls Try.prog 79 #[bdV b, .pointer (some ⟨q, 0, none⟩)] W fun e W' => e = .returned (.bool (o.isSome && decide (c ≤ b.most))) ∧ Below W.heap.size W W' := by
  unfold bdV
  obtain ⟨x, y, m⟩ := b
  simp only at hx hy h0 h1 ⊢
  obtain ⟨X, rfl⟩ := Int.eq_ofNat_of_zero_le hx.1
  obtain ⟨Y, rfl⟩ := Int.eq_ofNat_of_zero_le hy.1
  simp only [Int.toNat_natCast] at h0 h1
  have lq := World.block_lt_of_cell? W _ hq
  have l0 := World.block_lt_of_cell? W _ h0
  have l1 := World.block_lt_of_cell? W _ h1
  simp only at lq l0 l1
  have hX : (X : Int) < (n : Int) := by omega
  have hY : (Y : Int) < (n : Int) := by omega
  cases o with
  | none =>
    simp only [ptr, Option.map_none] at h1
    clear h2
    go_enter Try.func79, Try.ntmps79
    go_wp2_with fail
    refine wp_gen ?_
    intro W1 hW1
    have hb1 : Below W.heap.size W W1 := by rw [hW1]; exact bel_one _ _
    have y0 : W1.cell? ⟨W.heap.size, 0, none⟩ = some (.int .i64 (X : Int)) := by rw [hW1]; exact (new_cells (Below.refl _ _)).1 0
    have y1 : W1.cell? ⟨W.heap.size, 1, none⟩ = some (.int .i64 (Y : Int)) := by rw [hW1]; exact (new_cells (Below.refl _ _)).1 1
    have y2 : W1.cell? ⟨W.heap.size, 2, none⟩ = some (.int .i64 m) := by rw [hW1]; exact (new_cells (Below.refl _ _)).1 2
    replace hq := cell_stays hb1 hq
    replace h0 := cell_stays hb1 h0
    replace h1 := cell_stays hb1 h1
    clear hW1
    refine wp_region_F (fun w => w.cell? ⟨W.heap.size, 0, none⟩ = some (.int .i64 (X : Int)) ∧ w.cell? ⟨W.heap.size, 1, none⟩ = some (.int .i64 (Y : Int)) ∧ w.cell? ⟨W.heap.size, 2, none⟩ = some (.int .i64 m) ∧ w.cell? ⟨q, 0, none⟩ = some (.slice (some ⟨gt, 0, none⟩) n n) ∧ w.cell? ⟨gt, X, none⟩ = some (.slice (some ⟨gr, 0, none⟩) n n) ∧ w.cell? ⟨gr, Y, none⟩ = some (.pointer none)) (by repeat (first | exact grows_cell _ _ _ | exact grows_true | refine grows_and ?_ ?_)) (by kernel_rfl) (by kernel_rfl) ?hF ?_; (case hF => (first | exact ⟨‹_›, ‹_›⟩ | (go_simp; done) | (simp [*]; done))); intro hne hxx; have hG : Hid (Grows (fun w => w.cell? ⟨W.heap.size, 0, none⟩ = some (.int .i64 (X : Int)) ∧ w.cell? ⟨W.heap.size, 1, none⟩ = some (.int .i64 (Y : Int)) ∧ w.cell? ⟨W.heap.size, 2, none⟩ = some (.int .i64 m) ∧ w.cell? ⟨q, 0, none⟩ = some (.slice (some ⟨gt, 0, none⟩) n n) ∧ w.cell? ⟨gt, X, none⟩ = some (.slice (some ⟨gr, 0, none⟩) n n) ∧ w.cell? ⟨gr, Y, none⟩ = some (.pointer none))) := (by repeat (first | exact grows_cell _ _ _ | exact grows_true | refine grows_and ?_ ?_)); (repeat (go_big_quiet_step (fail))); clear hG hxx hne; refine wpQuiet_nil ?_; rintro _ ⟨⟨w', hb', hF'⟩, rfl⟩
    clear hF'
    go_wp2_with fail
    go_ret
    exact ⟨rfl, bel_tr hb1 hb'⟩
  | some a =>
    simp only [ptr, Option.map_some] at h1
    have h3 := h2 a rfl
    clear h2
    go_enter Try.func79, Try.ntmps79
    go_wp2_with fail
    refine wp_gen ?_
    intro W1 hW1
    have hb1 : Below W.heap.size W W1 := by rw [hW1]; exact bel_one _ _
    have y0 : W1.cell? ⟨W.heap.size, 0, none⟩ = some (.int .i64 (X : Int)) := by rw [hW1]; exact (new_cells (Below.refl _ _)).1 0
    have y1 : W1.cell? ⟨W.heap.size, 1, none⟩ = some (.int .i64 (Y : Int)) := by rw [hW1]; exact (new_cells (Below.refl _ _)).1 1
    have y2 : W1.cell? ⟨W.heap.size, 2, none⟩ = some (.int .i64 m) := by rw [hW1]; exact (new_cells (Below.refl _ _)).1 2
    replace hq := cell_stays hb1 hq
    replace h0 := cell_stays hb1 h0
    replace h1 := cell_stays hb1 h1
    clear hW1
    replace h3 := cell_stays hb1 h3
    obtain ⟨dd, hdd⟩ : ∃ d, decide (c ≤ m) = d := ⟨_, rfl⟩
    have HDD := Lib.hid hdd
    go_region_held3 (fun w => w.cell? ⟨W.heap.size, 0, none⟩ = some (.int .i64 (X : Int)) ∧ w.cell? ⟨W.heap.size, 1, none⟩ = some (.int .i64 (Y : Int)) ∧ w.cell? ⟨W.heap.size, 2, none⟩ = some (.int .i64 m) ∧ w.cell? ⟨q, 0, none⟩ = some (.slice (some ⟨gt, 0, none⟩) n n) ∧ w.cell? ⟨gt, X, none⟩ = some (.slice (some ⟨gr, 0, none⟩) n n) ∧ w.cell? ⟨gr, Y, none⟩ = some (.pointer (some ⟨a, 0, none⟩)) ∧ w.cell? ⟨a, 0, none⟩ = some (.int .i64 c)) (exact ⟨y0, y1, y2, hq, h0, h1, h3⟩) (fail)
    all_goals
      go_wp2_with fail
      go_ret
      rw [hdd]
      exact ⟨rfl, hb1.drew⟩

theorem enter_impl1 (args : Array Value) (W : World) : (callFunc 78 args).run Try.prog W = .ok (.enter 78 args) W := by rfl
theorem enter_impl2 (args : Array Value) (W : World) : (callFunc 79 args).run Try.prog W = .ok (.enter 79 args) W := by rfl
def inB (n : Nat) (b : Bd) : Prop := 0 ≤ b.x ∧ b.x < n ∧ 0 ≤ b.y ∧ b.y < n
/-- the function g with these captured values decides, from w on, whether all models satisfy a bound -/
def Decider (w : World) (n : Nat) (bs : List Bd) (g : FuncId) (caps : List Value) : Prop :=
  (∀ args W, (callFunc g args).run Try.prog W = .ok (.enter g args) W) ∧
  ∀ W b, Below w.heap.size w W → inB n b → Calls Try.prog g (bdV b :: caps).toArray W fun e W' => e = .returned (.bool (hasB n bs b)) ∧ Below W.heap.size W W'

set_option maxRecDepth 100000 in
set_option maxHeartbeats 2000000 in
theorem implied_any (n : Nat) (h16 : 1 ≤ n ∧ n ≤ 6) (bs : List Bd) (v : Value) (w : World) (hl : IsBds w v bs) (hg : good n bs) (hlen : bs.length ≤ 256) :
    Calls Try.prog 63 #[zoneV n v] w fun e W => ∃ g caps, e = .returned (.func (.func g) #[] (List.toArray caps)) ∧ Decider W n bs g caps ∧ Below w.heap.size w W := by
  unfold zoneV
  have HL := Lib.hid hl
  have HG := Lib.hid hg
  obtain ⟨A, c, rfl, -, -, -⟩ := hl
  have hs0 := fun W (a : Option Addr) l c => run_neq_slice_nil (P := Try.prog) W 27 3 a l c Try.underlying27
  clear hg
  go_enter Try.func63, Try.ntmps63
  go_wp2_with fail
  refine (solve_any n h16 bs _ _ (HL.out.stays bdAt_stays (bel_one _ _)) HG.out hlen).mono ?_
  rintro e w2 ⟨hb2, hcase⟩
  obtain ⟨hz, -⟩ := new_cells hb2
  have HB2 := Lib.hid (bel_tr (bel_one _ _) hb2)
  clear hb2
  rcases hcase with ⟨hf, g, rfl, -, -⟩ | ⟨hf, L, A', c', rfl, -, -, -⟩
  · have HF := Lib.hid hf
    clear hf
    go_wp2_with fail
    refine (tightest_any n h16 bs _ _ (HL.out.stays bdAt_stays HB2.out) HG.out hlen HF.out).mono ?_
    rintro e w3 ⟨gt, rows, p, rfl, ht⟩
    have HT := Lib.hid ht
    have HB3 := Lib.hid (bel_tr HB2.out ht.bel)
    clear ht hz
    go_wp2_with fail
    go_ret
    refine ⟨79, [.pointer (some ⟨w3.heap.size, 0, none⟩)], rfl, ⟨enter_impl2, ?_⟩, bel_al HB3.out _⟩
    intro W b hW hb
    have hbw := bel_tr (bel_one w3 (.cells #[.slice (some ⟨gt, 0, none⟩) n n] 84)) hW
    have hq : W.cell? ⟨w3.heap.size, 0, none⟩ = some (.slice (some ⟨gt, 0, none⟩) n n) := (new_cells hW).1 0
    obtain ⟨hx0, hx1, hy0, hy1⟩ := hb
    have hX : b.x.toNat < n := by omega
    have hY : b.y.toNat < n := by omega
    have q0 := cell_stays hbw (HT.out.outer b.x.toNat hX)
    have q1 := cell_stays hbw (HT.out.row b.x.toNat b.y.toNat hX hY)
    have hfw := fw_tight (good_ok HG.out) (feas_sat HF.out) hX hY
    cases hp : p b.x.toNat b.y.toNat with
    | none =>
      rw [hp] at q1
      have h := impl2_any b n w3.heap.size gt (rows b.x.toNat) none 0 W ⟨hx0, hx1⟩ ⟨hy0, hy1⟩ hq q0 q1 (fun a ha => by cases ha)
      rw [hasB_none HF.out (by rw [← hfw]; exact HT.out.no _ _ hX hY hp)]
      exact h
    | some a =>
      rw [hp] at q1
      obtain ⟨cq, tq, kq, -, -⟩ := HT.out.yes _ _ a hX hY hp
      have h := impl2_any b n w3.heap.size gt (rows b.x.toNat) (some a) cq W ⟨hx0, hx1⟩ ⟨hy0, hy1⟩ hq q0 q1 (fun a' ha => by injection ha with ha; subst ha; exact cell_stays hbw kq)
      rw [hasB_some HF.out (by rw [← hfw]; exact tq)]
      exact h
  · have HF := Lib.hid hf
    clear hf
    go_wp2_with fail
    go_ret
    refine ⟨78, [], rfl, ⟨enter_impl1, ?_⟩, HB2.out⟩
    intro W b _ _
    rw [hasB_no HF.out]
    exact impl1_any b W
end Go.Proofs.Ytgecbjjcjemcgaa
