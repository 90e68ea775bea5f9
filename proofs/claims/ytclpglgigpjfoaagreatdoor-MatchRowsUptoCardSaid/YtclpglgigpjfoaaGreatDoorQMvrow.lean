/- Own rows of values and of integers: their cells, and that they read so. -/
import Derived.Test.YtclpglgigpjfoaaGreatDoorQMbind
import Derived.Test.YtclpglgigpjfoaaGreatDoorQMval
import Derived.Test.YtclpglgigpjfoaaGreatDoorQReg
namespace Go.Proofs.YtclpglgigpjfoaaGreatDoor
open Go.RowKit

def flagV (b : Bool) : Vl := ⟨1, if b then 1 else 0, ⟨#[]⟩⟩
def numV (n : Int) : Vl := ⟨0, n, ⟨#[]⟩⟩
def vlEnc (x : Vl) : List Value := [.int .i64 x.kind, .int .i64 x.num, .string x.text]
def vlCells (l : List Vl) : List Value := l.flatMap vlEnc
theorem vlCells_app (l m : List Vl) : vlCells (l ++ m) = vlCells l ++ vlCells m := List.flatMap_append
theorem vlCells_snoc (l : List Vl) (x : Vl) : vlCells (l ++ [x]) = vlCells l ++ [.int .i64 x.kind, .int .i64 x.num, .string x.text] := by rw [vlCells_app]; rfl
theorem vlCells_one (l : List Vl) : ∀ u ∈ vlCells l, u.oneCell' = true := fun u hu => by
  obtain ⟨x, _, hx⟩ := List.mem_flatMap.1 hu
  simp only [vlEnc, List.mem_cons, List.not_mem_nil, or_false] at hx
  rcases hx with rfl | rfl | rfl <;> rfl
theorem vlCells_at : ∀ {l : List Vl} {k : Nat} {x : Vl}, l[k]? = some x → ∀ r, r < 3 → (vlCells l)[k * 3 + r]? = (vlEnc x)[r]?
  | [], k, x, h, _, _ => by simp at h
  | y :: l, 0, x, h, r, hr => by
    simp at h; subst h
    unfold vlCells
    rw [List.flatMap_cons, Nat.zero_mul, Nat.zero_add, List.getElem?_append_left (by simpa [vlEnc] using hr)]
  | y :: l, k + 1, x, h, r, hr => by
    have ih := vlCells_at (l := l) (k := k) (x := x) (by simpa using h) r hr
    unfold vlCells at ih ⊢
    rw [List.flatMap_cons, List.getElem?_append_right (by simp [vlEnc]; omega), ← ih]
    congr 1
    simp [vlEnc]; omega
theorem vlRow_is {B : Nat} {wr : World} {av : Value} {l : List Vl} (h : wr.ownsRow B 88 3 av l.length (vlCells l)) : IsVls wr av l := by
  obtain ⟨A, c, rfl, h2, h3, h4⟩ := ownsRow_src h (vlCells_one l)
  refine ⟨A, c, rfl, h2, h3, fun k x hk => ?_⟩
  have hkl := (List.getElem?_eq_some_iff.1 hk).1
  obtain ⟨b, o, hA, hcs⟩ := h4.2.2 (by omega)
  refine ⟨b, o, hA, hcs _ _ ?_, ?_, ?_⟩
  · have := vlCells_at hk 0 (by decide); simpa [vlEnc] using this
  · have := vlCells_at hk 1 (by decide); rw [Nat.add_assoc]; exact hcs _ _ (by simpa [vlEnc] using this)
  · have := vlCells_at hk 2 (by decide); rw [Nat.add_assoc]; exact hcs _ _ (by simpa [vlEnc] using this)
def InAt (w : World) (b p : Nat) (x : Int) : Prop := w.cell? ⟨b, p, none⟩ = some (.int .i64 x)
abbrev IsNums (w : World) (v : Value) (l : List Int) : Prop := Sl InAt 1 w v l
theorem inAt_stays : Stays InAt := fun _ _ _ _ _ hb h => cell_stays hb h
def inCells (l : List Int) : List Value := l.map (Value.int .i64)
theorem inCells_snoc (l : List Int) (x : Int) : inCells (l ++ [x]) = inCells l ++ [.int .i64 x] := by unfold inCells; simp
theorem inCells_one (l : List Int) : ∀ u ∈ inCells l, u.oneCell' = true := fun u hu => by
  obtain ⟨x, _, rfl⟩ := List.mem_map.1 hu
  rfl
theorem inRow_is {B : Nat} {wr : World} {av : Value} {l : List Int} (h : wr.ownsRow B 3 1 av l.length (inCells l)) : IsNums wr av l := by
  obtain ⟨A, c, rfl, h2, h3, h4⟩ := ownsRow_src h (inCells_one l)
  refine ⟨A, c, rfl, h2, h3, fun k x hk => ?_⟩
  have hkl := (List.getElem?_eq_some_iff.1 hk).1
  obtain ⟨b, o, hA, hcs⟩ := h4.2.2 (by omega)
  exact ⟨b, o, hA, by rw [Nat.mul_one]; exact hcs k _ (by unfold inCells; rw [List.getElem?_map, hk]; rfl)⟩
theorem info_int : (Tryz.prog.info? 3).map (fun i => (i.zero, i.size, i.bytes)) = some (some (.int .i64 0), 1, 8) := by kernel_rfl
end Go.Proofs.YtclpglgigpjfoaaGreatDoor
namespace Go.Proofs.YtclpglgigpjfoaaGreatDoor
open Go.RowKit

/-- an accumulator's block -/
def AccIn (W : World) (G : Nat) : Prop := ∃ v0 v1 v2 v3 v4, W.heap[G]? = some (.cells [v0, v1, v2, v3, v4].toArray 240 (0, 0))
theorem AccIn.mk {W : World} {G : Nat} {v0 v1 v2 v3 v4 : Value} (h : W.heap[G]? = some (.cells [v0, v1, v2, v3, v4].toArray 240 (0, 0))) : AccIn W G := ⟨_, _, _, _, _, h⟩
theorem AccIn.bel {W W' : World} {G : Nat} (h : AccIn W G) (hb : Below W.heap.size W W') : AccIn W' G := by
  obtain ⟨v0, v1, v2, v3, v4, h⟩ := h
  exact ⟨_, _, _, _, _, (hb.block G (blk_lt h)).trans h⟩
theorem other_set {w : World} {g b p : Nat} {u : Value} (hne : b ≠ g) (a0 a1 a2 a3 a4 : Value) (h : w.cell? ⟨b, p, none⟩ = some u) : (((((w.setCell ⟨g, 0, none⟩ a0).setCell ⟨g, 1, none⟩ a1).setCell ⟨g, 2, none⟩ a2).setCell ⟨g, 3, none⟩ a3).setCell ⟨g, 4, none⟩ a4).cell? ⟨b, p, none⟩ = some u := by
  go_simp
theorem accBlk_set {w : World} {g : Nat} {t : TypeId} {u0 u1 u2 u3 u4 : Value} (h : w.heap[g]? = some (.cells [u0, u1, u2, u3, u4].toArray t (0, 0))) (a0 a1 a2 a3 a4 : Value) :
    (((((w.setCell ⟨g, 0, none⟩ a0).setCell ⟨g, 1, none⟩ a1).setCell ⟨g, 2, none⟩ a2).setCell ⟨g, 3, none⟩ a3).setCell ⟨g, 4, none⟩ a4).heap[g]? = some (.cells [a0, a1, a2, a3, a4].toArray t (0, 0)) :=
  blk_set (blk_set (blk_set (blk_set (blk_set h 0 a0) 1 a1) 2 a2) 3 a3) 4 a4
set_option maxRecDepth 100000 in
set_option maxHeartbeats 4000000 in
theorem merged_any (a b : Ac) (w : World) (hk : knownB a.kind = true) (hca : 0 ≤ a.count ∧ a.count ≤ 100000) (hcb : 0 ≤ b.count ∧ b.count ≤ 100000)
    (ha : -2305843009213693952 ≤ a.val.num ∧ a.val.num ≤ 2305843009213693952) (hb : -2305843009213693952 ≤ b.val.num ∧ b.val.num ≤ 2305843009213693952) :
    Calls Tryz.prog 206 #[accV a, accV b] w fun e w' => e = .returned (accV (mergA a b)) ∧ Below w.heap.size w w' := by
  have HCB := Lib.hid (fun W => combine_any a.kind a.val b.val W hk ha hb)
  unfold mergA
  by_cases h0 : a.count = 0
  · rw [if_pos h0]
    have h0' : (a.count == 0) = true := by simpa using h0
    clear h0
    unfold accV
    go_enter Tryz.func206, Tryz.ntmps206
    go_wp2
    exact bodyPost_ret (v := .agg #[.int .i64 b.kind, .int .i64 b.count, .int .i64 b.val.kind, .int .i64 b.val.num, .string b.val.text]) (by simp [results, Tryz.results206, go_sem]) rfl ⟨rfl, (by repeat (first | exact Below.refl _ _ | assumption | refine Below.drew ?_ | refine bel_al ?_ _ | refine bel_set ?_ (by omega) _ | refine bel_tr ?_ (by assumption)))⟩
  rw [if_neg h0]
  have h0' : (a.count == 0) = false := by simpa using h0
  clear h0
  by_cases h1 : b.count = 0
  · rw [if_pos h1]
    have h1' : (b.count == 0) = true := by simpa using h1
    clear h1
    unfold accV
    go_enter Tryz.func206, Tryz.ntmps206
    go_wp2
    exact bodyPost_ret (v := .agg #[.int .i64 a.kind, .int .i64 a.count, .int .i64 a.val.kind, .int .i64 a.val.num, .string a.val.text]) (by simp [results, Tryz.results206, go_sem]) rfl ⟨rfl, (by repeat (first | exact Below.refl _ _ | assumption | refine Below.drew ?_ | refine bel_al ?_ _ | refine bel_set ?_ (by omega) _ | refine bel_tr ?_ (by assumption)))⟩
  rw [if_neg h1]
  have h1' : (b.count == 0) = false := by simpa using h1
  obtain ⟨hca1, hca2⟩ := hca
  obtain ⟨hcb1, hcb2⟩ := hcb
  have hw : IntKind.i64.wrap (a.count + b.count) = a.count + b.count := by simp [IntKind.wrap, IntKind.bits, IntKind.signed]; omega
  obtain ⟨C, hC⟩ : ∃ C, combV a.kind a.val b.val = C := ⟨_, rfl⟩
  rw [hC] at HCB ⊢
  unfold vlV at HCB
  clear h1 hC hk ha hb
  unfold accV
  go_enter Tryz.func206, Tryz.ntmps206
  go_wp2_with fail
  refine wp_gen fun w1 e1 => ?_
  have x0 : w1.cell? ⟨w.heap.size, 0, none⟩ = some (.int .i64 a.kind) := by rw [e1]; go_simp
  have x1 : w1.cell? ⟨w.heap.size, 1, none⟩ = some (.int .i64 a.count) := by rw [e1]; go_simp
  have x2 : w1.cell? ⟨w.heap.size, 2, none⟩ = some (.int .i64 a.val.kind) := by rw [e1]; go_simp
  have x3 : w1.cell? ⟨w.heap.size, 3, none⟩ = some (.int .i64 a.val.num) := by rw [e1]; go_simp
  have x4 : w1.cell? ⟨w.heap.size, 4, none⟩ = some (.string a.val.text) := by rw [e1]; go_simp
  have y0 : w1.cell? ⟨w.heap.size + 1, 0, none⟩ = some (.int .i64 b.kind) := by rw [e1]; go_simp
  have y1 : w1.cell? ⟨w.heap.size + 1, 1, none⟩ = some (.int .i64 b.count) := by rw [e1]; go_simp
  have y2 : w1.cell? ⟨w.heap.size + 1, 2, none⟩ = some (.int .i64 b.val.kind) := by rw [e1]; go_simp
  have y3 : w1.cell? ⟨w.heap.size + 1, 3, none⟩ = some (.int .i64 b.val.num) := by rw [e1]; go_simp
  have y4 : w1.cell? ⟨w.heap.size + 1, 4, none⟩ = some (.string b.val.text) := by rw [e1]; go_simp
  have hr : w1.heap[w.heap.size + 2]? = some (.cells [.int .i64 0, .int .i64 0, .int .i64 0, .int .i64 0, .string ⟨#[]⟩].toArray 240 (0, 0)) := by rw [e1]; exact heap_new' _ _ _ (by simp)
  have hb1 : Below w.heap.size w w1 := by rw [e1]; exact (by repeat (first | exact Below.refl _ _ | assumption | refine Below.drew ?_ | refine bel_al ?_ _ | refine bel_set ?_ (by omega) _ | refine bel_tr ?_ (by assumption)))
  obtain ⟨G, hG⟩ : ∃ G, G = w.heap.size + 2 := ⟨_, rfl⟩
  have hGw : w.heap.size ≤ G := by omega
  have hG1 : G < w1.heap.size := by rw [e1, hG]; simp
  have hn0 : w.heap.size ≠ G := by omega
  have hn1 : w.heap.size + 1 ≠ G := by omega
  clear e1
  rw [show w.heap.size + 1 + 1 = w.heap.size + 2 from rfl]
  rw [← hG] at hr ⊢
  have HB1 := Lib.hid hb1
  have HRR := Lib.hid hr
  clear hb1 hr hG hG1
  refine wp_region_noPanic ?_
  refine wp_region_held_drew (S := fun W => Below w.heap.size w W ∧ W.cell? ⟨w.heap.size, 0, none⟩ = some (.int .i64 a.kind) ∧ W.cell? ⟨w.heap.size, 1, none⟩ = some (.int .i64 a.count) ∧ W.cell? ⟨w.heap.size, 2, none⟩ = some (.int .i64 a.val.kind) ∧ W.cell? ⟨w.heap.size, 3, none⟩ = some (.int .i64 a.val.num) ∧ W.cell? ⟨w.heap.size, 4, none⟩ = some (.string a.val.text) ∧ W.cell? ⟨w.heap.size + 1, 0, none⟩ = some (.int .i64 b.kind) ∧ W.cell? ⟨w.heap.size + 1, 1, none⟩ = some (.int .i64 b.count) ∧ W.cell? ⟨w.heap.size + 1, 2, none⟩ = some (.int .i64 b.val.kind) ∧ W.cell? ⟨w.heap.size + 1, 3, none⟩ = some (.int .i64 b.val.num) ∧ W.cell? ⟨w.heap.size + 1, 4, none⟩ = some (.string b.val.text) ∧ AccIn W G) (by kernel_rfl) (⟨HB1.out.drew, x0, x1, x2, x3, x4, y0, y1, y2, y3, y4, AccIn.mk HRR.out⟩) (fun hHeld => ?_)
  generalize w1.drew = wD at hHeld ⊢
  focus (refine wpAnyH_take2 (i := 0) (fuel := 15) (L := (true :: false :: false :: false :: false :: false :: false :: false :: false :: false :: false :: false :: false :: false :: false :: false :: []).toArray) (v := ?_) rfl rfl (by kernel_rfl) (by kernel_rfl) (by kernel_rfl) (by kernel_rfl) (fun _ _ _ h => h) (by kernel_rfl) ?_ (by assumption) ?_; rotate_left 1; (focus (intro wS hSw; (try dsimp only at hSw); go_simp <;> with_reducible rfl)); simp only [List.set_cons_zero, List.set_cons_succ])
  focus (refine wpAnyH_take2 (i := 1) (fuel := 14) (L := (true :: true :: false :: false :: false :: false :: false :: false :: false :: false :: false :: false :: false :: false :: false :: false :: []).toArray) (v := ?_) rfl rfl (by kernel_rfl) (by kernel_rfl) (by kernel_rfl) (by kernel_rfl) (fun _ _ _ h => h) (by kernel_rfl) ?_ (by assumption) ?_; rotate_left 1; (focus (intro wS hSw; (try dsimp only at hSw); go_simp <;> with_reducible rfl)); simp only [List.set_cons_zero, List.set_cons_succ])
  focus (refine wpAnyH_take2 (i := 2) (fuel := 13) (L := (true :: true :: true :: false :: false :: false :: false :: false :: false :: false :: false :: false :: false :: false :: false :: false :: []).toArray) (v := ?_) rfl rfl (by kernel_rfl) (by kernel_rfl) (by kernel_rfl) (by kernel_rfl) (fun _ _ _ h => h) (by kernel_rfl) ?_ (by assumption) ?_; rotate_left 1; (focus (intro wS hSw; (try dsimp only at hSw); go_simp <;> with_reducible rfl)); simp only [List.set_cons_zero, List.set_cons_succ])
  focus (refine wpAnyH_take2 (i := 3) (fuel := 12) (L := (true :: true :: true :: true :: false :: false :: false :: false :: false :: false :: false :: false :: false :: false :: false :: false :: []).toArray) (v := ?_) rfl rfl (by kernel_rfl) (by kernel_rfl) (by kernel_rfl) (by kernel_rfl) (fun _ _ _ h => h) (by kernel_rfl) ?_ (by assumption) ?_; rotate_left 1; (focus (intro wS hSw; (try dsimp only at hSw); go_simp <;> with_reducible rfl)); simp only [List.set_cons_zero, List.set_cons_succ])
  focus (refine wpAnyH_take2 (i := 4) (fuel := 11) (L := (true :: true :: true :: true :: true :: false :: false :: false :: false :: false :: false :: false :: false :: false :: false :: false :: []).toArray) (v := ?_) rfl rfl (by kernel_rfl) (by kernel_rfl) (by kernel_rfl) (by kernel_rfl) (fun _ _ _ h => h) (by kernel_rfl) ?_ (by assumption) ?_; rotate_left 1; (focus (intro wS hSw; (try dsimp only at hSw); go_simp <;> with_reducible rfl)); simp only [List.set_cons_zero, List.set_cons_succ])
  focus (refine wpAnyH_take2 (i := 5) (fuel := 10) (L := (true :: true :: true :: true :: true :: true :: false :: false :: false :: false :: false :: false :: false :: false :: false :: false :: []).toArray) (v := ?_) rfl rfl (by kernel_rfl) (by kernel_rfl) (by kernel_rfl) (by kernel_rfl) (fun _ _ _ h => h) (by kernel_rfl) ?_ (by assumption) ?_; rotate_left 1; (focus (intro wS hSw; (try dsimp only at hSw); go_simp <;> with_reducible rfl)); simp only [List.set_cons_zero, List.set_cons_succ])
  focus (refine wpAnyH_take2 (i := 6) (fuel := 9) (L := (true :: true :: true :: true :: true :: true :: true :: false :: false :: false :: false :: false :: false :: false :: false :: false :: []).toArray) (v := ?_) rfl rfl (by kernel_rfl) (by kernel_rfl) (by kernel_rfl) (by kernel_rfl) (fun _ _ _ h => h) (by kernel_rfl) ?_ (by assumption) ?_; rotate_left 1; (focus (intro wS hSw; (try dsimp only at hSw); go_simp <;> with_reducible rfl)); simp only [List.set_cons_zero, List.set_cons_succ])
  focus (refine wpAnyH_take2 (i := 7) (fuel := 8) (L := (true :: true :: true :: true :: true :: true :: true :: true :: false :: false :: false :: false :: false :: false :: false :: false :: []).toArray) (v := ?_) rfl rfl (by kernel_rfl) (by kernel_rfl) (by kernel_rfl) (by kernel_rfl) (fun _ _ _ h => h) (by kernel_rfl) ?_ (by assumption) ?_; rotate_left 1; (focus (intro wS hSw; (try dsimp only at hSw); go_simp <;> with_reducible rfl)); simp only [List.set_cons_zero, List.set_cons_succ])
  focus (refine wpAnyH_take2 (i := 8) (fuel := 7) (L := (true :: true :: true :: true :: true :: true :: true :: true :: true :: false :: false :: false :: false :: false :: false :: false :: []).toArray) (v := ?_) rfl rfl (by kernel_rfl) (by kernel_rfl) (by kernel_rfl) (by kernel_rfl) (fun _ _ _ h => h) (by kernel_rfl) ?_ (by assumption) ?_; rotate_left 1; (focus (intro wS hSw; (try dsimp only at hSw); go_simp <;> with_reducible rfl)); simp only [List.set_cons_zero, List.set_cons_succ])
  focus (refine wpAnyH_take2 (i := 9) (fuel := 6) (L := (true :: true :: true :: true :: true :: true :: true :: true :: true :: true :: false :: false :: false :: false :: false :: false :: []).toArray) (v := ?_) rfl rfl (by kernel_rfl) (by kernel_rfl) (by kernel_rfl) (by kernel_rfl) (fun _ _ _ h => h) (by kernel_rfl) ?_ (by assumption) ?_; rotate_left 1; (focus (intro wS hSw; (try dsimp only at hSw); go_simp <;> with_reducible rfl)); simp only [List.set_cons_zero, List.set_cons_succ])
  focus (refine wpAnyH_take2 (i := 10) (fuel := 5) (L := (true :: true :: true :: true :: true :: true :: true :: true :: true :: true :: true :: false :: false :: false :: false :: false :: []).toArray) (v := ?_) rfl rfl (by kernel_rfl) (by kernel_rfl) (by kernel_rfl) (by kernel_rfl) (fun _ _ _ h => h) (by kernel_rfl) ?_ (by assumption) ?_; rotate_left 1; (focus (intro wS hSw; (try dsimp only at hSw); go_simp <;> with_reducible rfl)); simp only [List.set_cons_zero, List.set_cons_succ])
  focus (refine wpAnyH_take2 (i := 11) (fuel := 4) (L := (true :: true :: true :: true :: true :: true :: true :: true :: true :: true :: true :: true :: false :: false :: false :: false :: []).toArray) (v := ?_) rfl rfl (by kernel_rfl) (by kernel_rfl) (by kernel_rfl) (by kernel_rfl) (fun _ _ _ h => h) (by kernel_rfl) ?_ (by assumption) ?_; rotate_left 1; (focus (intro wS hSw; (try dsimp only at hSw); go_simp <;> with_reducible rfl)); simp only [List.set_cons_zero, List.set_cons_succ])
  focus (refine wpAnyH_take2 (i := 12) (fuel := 3) (L := (true :: true :: true :: true :: true :: true :: true :: true :: true :: true :: true :: true :: true :: false :: false :: false :: []).toArray) (v := ?_) rfl rfl (by kernel_rfl) (by kernel_rfl) (by kernel_rfl) (by kernel_rfl) (fun _ _ _ h => h) (by kernel_rfl) ?_ (by assumption) ?_; rotate_left 1; (focus (intro wS hSw; (try dsimp only at hSw); go_simp <;> with_reducible rfl)); simp only [List.set_cons_zero, List.set_cons_succ])
  refine wpAnyH_next (i := 13) (fuel := 2) (L := (true :: true :: true :: true :: true :: true :: true :: true :: true :: true :: true :: true :: true :: true :: false :: false :: []).toArray) rfl (by kernel_rfl) (by kernel_rfl) (by kernel_rfl) (fun K hK => ?_)
  focus (go_simp; go_at_call 219; refine (HCB.out _).mono ?_; rintro e w5 ⟨rfl, hb5⟩)
  refine hK.out _ _ (⟨bel_tr hHeld.1 hb5, cell_stays hb5 hHeld.2.1, cell_stays hb5 hHeld.2.2.1, cell_stays hb5 hHeld.2.2.2.1, cell_stays hb5 hHeld.2.2.2.2.1, cell_stays hb5 hHeld.2.2.2.2.2.1, cell_stays hb5 hHeld.2.2.2.2.2.2.1, cell_stays hb5 hHeld.2.2.2.2.2.2.2.1, cell_stays hb5 hHeld.2.2.2.2.2.2.2.2.1, cell_stays hb5 hHeld.2.2.2.2.2.2.2.2.2.1, cell_stays hb5 hHeld.2.2.2.2.2.2.2.2.2.2.1, (hHeld.2.2.2.2.2.2.2.2.2.2.2).bel hb5⟩) (fun hHeld => ?_)
  clear hK K
  focus (refine wpAnyH_take2 (i := 14) (fuel := 1) (L := (true :: true :: true :: true :: true :: true :: true :: true :: true :: true :: true :: true :: true :: true :: true :: false :: []).toArray) (v := ?_) rfl rfl (by kernel_rfl) (by kernel_rfl) (by kernel_rfl) (by kernel_rfl) (fun _ _ _ h => h) (by kernel_rfl) ?_ (by assumption) ?_; rotate_left 1; (focus (intro wS hSw; (try dsimp only at hSw); go_simp <;> with_reducible rfl)); simp only [List.set_cons_zero, List.set_cons_succ])
  refine wpAnyH_next (i := 15) (fuel := 0) (L := (true :: true :: true :: true :: true :: true :: true :: true :: true :: true :: true :: true :: true :: true :: true :: true :: []).toArray) rfl (by kernel_rfl) (by kernel_rfl) (by kernel_rfl) (fun K hK => ?_)
  obtain ⟨v0, v1, v2, v3, v4, rr⟩ := hHeld.2.2.2.2.2.2.2.2.2.2.2
  have z0 : w5.cell? ⟨G, 0, none⟩ = some v0 := by rw [blk_cell rr]; rfl
  have z1 : w5.cell? ⟨G, 1, none⟩ = some v1 := by rw [blk_cell rr]; rfl
  have z2 : w5.cell? ⟨G, 2, none⟩ = some v2 := by rw [blk_cell rr]; rfl
  have z3 : w5.cell? ⟨G, 3, none⟩ = some v3 := by rw [blk_cell rr]; rfl
  have z4 : w5.cell? ⟨G, 4, none⟩ = some v4 := by rw [blk_cell rr]; rfl
  have f0 := blk_frozen rr 0
  have f1 := blk_frozen rr 1
  have f2 := blk_frozen rr 2
  have f3 := blk_frozen rr 3
  have f4 := blk_frozen rr 4
  have HQ := Lib.hid (accBlk_set rr (.int .i64 a.kind) (.int .i64 (a.count + b.count)) (.int .i64 C.kind) (.int .i64 C.num) (.string C.text))
  have HHB := Lib.hid (bel_set (bel_set (bel_set (bel_set (bel_set hHeld.1 (i := 0) hGw (.int .i64 a.kind)) (i := 1) hGw (.int .i64 (a.count + b.count))) (i := 2) hGw (.int .i64 C.kind)) (i := 3) hGw (.int .i64 C.num)) (i := 4) hGw (.string C.text))
  have HOT := Lib.hid (fun (bk : Nat) (p : Nat) (u : Value) (hbG : bk ≠ G) (h : w5.cell? ⟨bk, p, none⟩ = some u) => other_set hbG (.int .i64 a.kind) (.int .i64 (a.count + b.count)) (.int .i64 C.kind) (.int .i64 C.num) (.string C.text) h)
  clear rr
  go_simp
  refine hK.out _ _ (⟨HHB.out, HOT.out _ _ _ (by first | exact hn0 | exact hn1) hHeld.2.1, HOT.out _ _ _ (by first | exact hn0 | exact hn1) hHeld.2.2.1, HOT.out _ _ _ (by first | exact hn0 | exact hn1) hHeld.2.2.2.1, HOT.out _ _ _ (by first | exact hn0 | exact hn1) hHeld.2.2.2.2.1, HOT.out _ _ _ (by first | exact hn0 | exact hn1) hHeld.2.2.2.2.2.1, HOT.out _ _ _ (by first | exact hn0 | exact hn1) hHeld.2.2.2.2.2.2.1, HOT.out _ _ _ (by first | exact hn0 | exact hn1) hHeld.2.2.2.2.2.2.2.1, HOT.out _ _ _ (by first | exact hn0 | exact hn1) hHeld.2.2.2.2.2.2.2.2.1, HOT.out _ _ _ (by first | exact hn0 | exact hn1) hHeld.2.2.2.2.2.2.2.2.2.1, HOT.out _ _ _ (by first | exact hn0 | exact hn1) hHeld.2.2.2.2.2.2.2.2.2.2.1, AccIn.mk HQ.out⟩) (fun hHeld => ?_)
  clear hK K
  refine wpAnyH_done (by kernel_rfl) (NoPanic.normal ?_) _
  rotate_left 1
  go_wp2_with fail
  have q0 := blk_cell HQ.out 0
  have q1 := blk_cell HQ.out 1
  have q2 := blk_cell HQ.out 2
  have q3 := blk_cell HQ.out 3
  have q4 := blk_cell HQ.out 4
  exact bodyPost_ret (v := .agg #[.int .i64 a.kind, .int .i64 (a.count + b.count), .int .i64 C.kind, .int .i64 C.num, .string C.text]) (by simp [results, Tryz.results206, go_sem, q0, q1, q2, q3, q4]) rfl ⟨rfl, HHB.out⟩
end Go.Proofs.YtclpglgigpjfoaaGreatDoor
namespace Go.Proofs.YtclpglgigpjfoaaGreatDoor
open Go.RowKit

set_option maxRecDepth 100000 in
set_option maxHeartbeats 4000000 in
theorem of1_any (k i : Int) (a : Ac) (v : Vl) (p : Nat) (w : World) (hp : w.cell? ⟨p, 0, none⟩ = some (.int .i64 k)) (hk : knownB k = true) (h : AcOk k a i) (hi : 0 ≤ i ∧ i ≤ 4096) (hv : wrongE k v = 0) :
    Calls Tryz.prog 205 #[accV a, vlV v, .pointer (some ⟨p, 0, none⟩)] w fun e w' => e = .returned (accV (stepA k a v)) ∧ Below w.heap.size w w' := by
  have hs1 : AcOk k ⟨k, 1, singV k v⟩ 1 := by
    have := ok_step hk (ok_start k) (by decide) hv
    unfold stepA mergA at this
    rwa [if_pos rfl] at this
  have hb2 := ok_num hk hs1 (by decide)
  have HMG := Lib.hid (fun W => merged_any a ⟨k, 1, singV k v⟩ W (by rw [h.kind]; exact hk) (by rw [h.count]; omega) (by simp only; decide) (ok_num hk h hi) hb2)
  have HSI := Lib.hid (single_any k v)
  obtain ⟨M, hM⟩ : ∃ M, stepA k a v = M := ⟨_, rfl⟩
  have hM2 : mergA a ⟨k, 1, singV k v⟩ = M := hM
  rw [hM2] at HMG
  rw [hM]
  obtain ⟨sv, hsv⟩ : ∃ sv, singV k v = sv := ⟨_, rfl⟩
  rw [hsv] at HMG HSI
  have hpl : p < w.heap.size := World.block_lt_of_cell? w ⟨p, _, none⟩ hp
  unfold vlV at HSI ⊢
  unfold accV at HMG ⊢
  clear hM hM2 hsv hb2 hs1 hv h hk hi
  go_enter Tryz.func205, Tryz.ntmps205
  go_wp2_with fail
  refine wp_gen fun w1 e1 => ?_
  have x0 : w1.cell? ⟨w.heap.size, 0, none⟩ = some (.int .i64 a.kind) := by rw [e1]; go_simp
  have x1 : w1.cell? ⟨w.heap.size, 1, none⟩ = some (.int .i64 a.count) := by rw [e1]; go_simp
  have x2 : w1.cell? ⟨w.heap.size, 2, none⟩ = some (.int .i64 a.val.kind) := by rw [e1]; go_simp
  have x3 : w1.cell? ⟨w.heap.size, 3, none⟩ = some (.int .i64 a.val.num) := by rw [e1]; go_simp
  have x4 : w1.cell? ⟨w.heap.size, 4, none⟩ = some (.string a.val.text) := by rw [e1]; go_simp
  have y0 : w1.cell? ⟨w.heap.size + 1, 0, none⟩ = some (.int .i64 v.kind) := by rw [e1]; go_simp
  have y1 : w1.cell? ⟨w.heap.size + 1, 1, none⟩ = some (.int .i64 v.num) := by rw [e1]; go_simp
  have y2 : w1.cell? ⟨w.heap.size + 1, 2, none⟩ = some (.string v.text) := by rw [e1]; go_simp
  have hr : w1.heap[w.heap.size + 2]? = some (.cells [.int .i64 0, .int .i64 0, .int .i64 0, .int .i64 0, .string ⟨#[]⟩].toArray 240 (0, 0)) := by rw [e1]; exact heap_new' _ _ _ (by simp)
  have hb1 : Below w.heap.size w w1 := by rw [e1]; exact (by repeat (first | exact Below.refl _ _ | assumption | refine Below.drew ?_ | refine bel_al ?_ _ | refine bel_set ?_ (by omega) _ | refine bel_tr ?_ (by assumption)))
  have p0 := cell_stays hb1 hp
  obtain ⟨G, hG⟩ : ∃ G, G = w.heap.size + 2 := ⟨_, rfl⟩
  have hGw : w.heap.size ≤ G := by omega
  have hn0 : w.heap.size ≠ G := by omega
  have hn1 : w.heap.size + 1 ≠ G := by omega
  have hn2 : p ≠ G := by omega
  clear e1
  rw [show w.heap.size + 1 + 1 = w.heap.size + 2 from rfl]
  rw [← hG] at hr ⊢
  have HB1 := Lib.hid hb1
  have HRR := Lib.hid hr
  clear hb1 hr hG hpl
  refine wp_region_noPanic ?_
  refine wp_region_held_drew (S := fun W => Below w.heap.size w W ∧ W.cell? ⟨w.heap.size, 0, none⟩ = some (.int .i64 a.kind) ∧ W.cell? ⟨w.heap.size, 1, none⟩ = some (.int .i64 a.count) ∧ W.cell? ⟨w.heap.size, 2, none⟩ = some (.int .i64 a.val.kind) ∧ W.cell? ⟨w.heap.size, 3, none⟩ = some (.int .i64 a.val.num) ∧ W.cell? ⟨w.heap.size, 4, none⟩ = some (.string a.val.text) ∧ W.cell? ⟨w.heap.size + 1, 0, none⟩ = some (.int .i64 v.kind) ∧ W.cell? ⟨w.heap.size + 1, 1, none⟩ = some (.int .i64 v.num) ∧ W.cell? ⟨w.heap.size + 1, 2, none⟩ = some (.string v.text) ∧ W.cell? ⟨p, 0, none⟩ = some (.int .i64 k) ∧ AccIn W G) (by kernel_rfl) (⟨HB1.out.drew, x0, x1, x2, x3, x4, y0, y1, y2, p0, AccIn.mk HRR.out⟩) (fun hHeld => ?_)
  generalize w1.drew = wD at hHeld ⊢
  focus (refine wpAnyH_take2 (i := 0) (fuel := 7) (L := (true :: false :: false :: false :: false :: false :: false :: false :: []).toArray) (v := ?_) rfl rfl (by kernel_rfl) (by kernel_rfl) (by kernel_rfl) (by kernel_rfl) (fun _ _ _ h => h) (by kernel_rfl) ?_ (by assumption) ?_; rotate_left 1; (focus (intro wS hSw; (try dsimp only at hSw); go_simp <;> with_reducible rfl)); simp only [List.set_cons_zero, List.set_cons_succ])
  focus (refine wpAnyH_take2 (i := 1) (fuel := 6) (L := (true :: true :: false :: false :: false :: false :: false :: false :: []).toArray) (v := ?_) rfl rfl (by kernel_rfl) (by kernel_rfl) (by kernel_rfl) (by kernel_rfl) (fun _ _ _ h => h) (by kernel_rfl) ?_ (by assumption) ?_; rotate_left 1; (focus (intro wS hSw; (try dsimp only at hSw); go_simp <;> with_reducible rfl)); simp only [List.set_cons_zero, List.set_cons_succ])
  focus (refine wpAnyH_take2 (i := 2) (fuel := 5) (L := (true :: true :: true :: false :: false :: false :: false :: false :: []).toArray) (v := ?_) rfl rfl (by kernel_rfl) (by kernel_rfl) (by kernel_rfl) (by kernel_rfl) (fun _ _ _ h => h) (by kernel_rfl) ?_ (by assumption) ?_; rotate_left 1; (focus (intro wS hSw; (try dsimp only at hSw); go_simp <;> with_reducible rfl)); simp only [List.set_cons_zero, List.set_cons_succ])
  focus (refine wpAnyH_take2 (i := 3) (fuel := 4) (L := (true :: true :: true :: true :: false :: false :: false :: false :: []).toArray) (v := ?_) rfl rfl (by kernel_rfl) (by kernel_rfl) (by kernel_rfl) (by kernel_rfl) (fun _ _ _ h => h) (by kernel_rfl) ?_ (by assumption) ?_; rotate_left 1; (focus (intro wS hSw; (try dsimp only at hSw); go_simp <;> with_reducible rfl)); simp only [List.set_cons_zero, List.set_cons_succ])
  refine wpAnyH_next (i := 4) (fuel := 3) (L := (true :: true :: true :: true :: true :: false :: false :: false :: []).toArray) rfl (by kernel_rfl) (by kernel_rfl) (by kernel_rfl) (fun K hK => ?_)
  focus (go_simp; go_at_call 207; refine (HSI.out _).mono ?_; rintro e w5 ⟨rfl, hb5⟩)
  refine hK.out _ _ (⟨bel_tr hHeld.1 hb5, cell_stays hb5 hHeld.2.1, cell_stays hb5 hHeld.2.2.1, cell_stays hb5 hHeld.2.2.2.1, cell_stays hb5 hHeld.2.2.2.2.1, cell_stays hb5 hHeld.2.2.2.2.2.1, cell_stays hb5 hHeld.2.2.2.2.2.2.1, cell_stays hb5 hHeld.2.2.2.2.2.2.2.1, cell_stays hb5 hHeld.2.2.2.2.2.2.2.2.1, cell_stays hb5 hHeld.2.2.2.2.2.2.2.2.2.1, (hHeld.2.2.2.2.2.2.2.2.2.2).bel hb5⟩) (fun hHeld => ?_)
  clear hK K
  focus (refine wpAnyH_take2 (i := 5) (fuel := 2) (L := (true :: true :: true :: true :: true :: true :: false :: false :: []).toArray) (v := ?_) rfl rfl (by kernel_rfl) (by kernel_rfl) (by kernel_rfl) (by kernel_rfl) (fun _ _ _ h => h) (by kernel_rfl) ?_ (by assumption) ?_; rotate_left 1; (focus (intro wS hSw; (try dsimp only at hSw); go_simp <;> with_reducible rfl)); simp only [List.set_cons_zero, List.set_cons_succ])
  refine wpAnyH_next (i := 6) (fuel := 1) (L := (true :: true :: true :: true :: true :: true :: true :: false :: []).toArray) rfl (by kernel_rfl) (by kernel_rfl) (by kernel_rfl) (fun K hK => ?_)
  focus (go_simp; go_at_call 206; refine (HMG.out _).mono ?_; rintro e w6 ⟨rfl, hb6⟩)
  refine hK.out _ _ (⟨bel_tr hHeld.1 hb6, cell_stays hb6 hHeld.2.1, cell_stays hb6 hHeld.2.2.1, cell_stays hb6 hHeld.2.2.2.1, cell_stays hb6 hHeld.2.2.2.2.1, cell_stays hb6 hHeld.2.2.2.2.2.1, cell_stays hb6 hHeld.2.2.2.2.2.2.1, cell_stays hb6 hHeld.2.2.2.2.2.2.2.1, cell_stays hb6 hHeld.2.2.2.2.2.2.2.2.1, cell_stays hb6 hHeld.2.2.2.2.2.2.2.2.2.1, (hHeld.2.2.2.2.2.2.2.2.2.2).bel hb6⟩) (fun hHeld => ?_)
  clear hK K
  refine wpAnyH_next (i := 7) (fuel := 0) (L := (true :: true :: true :: true :: true :: true :: true :: true :: []).toArray) rfl (by kernel_rfl) (by kernel_rfl) (by kernel_rfl) (fun K hK => ?_)
  obtain ⟨v0, v1, v2, v3, v4, rr⟩ := hHeld.2.2.2.2.2.2.2.2.2.2
  have z0 : w6.cell? ⟨G, 0, none⟩ = some v0 := by rw [blk_cell rr]; rfl
  have z1 : w6.cell? ⟨G, 1, none⟩ = some v1 := by rw [blk_cell rr]; rfl
  have z2 : w6.cell? ⟨G, 2, none⟩ = some v2 := by rw [blk_cell rr]; rfl
  have z3 : w6.cell? ⟨G, 3, none⟩ = some v3 := by rw [blk_cell rr]; rfl
  have z4 : w6.cell? ⟨G, 4, none⟩ = some v4 := by rw [blk_cell rr]; rfl
  have f0 := blk_frozen rr 0
  have f1 := blk_frozen rr 1
  have f2 := blk_frozen rr 2
  have f3 := blk_frozen rr 3
  have f4 := blk_frozen rr 4
  have HQ := Lib.hid (accBlk_set rr (.int .i64 M.kind) (.int .i64 M.count) (.int .i64 M.val.kind) (.int .i64 M.val.num) (.string M.val.text))
  have HHB := Lib.hid (bel_set (bel_set (bel_set (bel_set (bel_set hHeld.1 (i := 0) hGw (.int .i64 M.kind)) (i := 1) hGw (.int .i64 M.count)) (i := 2) hGw (.int .i64 M.val.kind)) (i := 3) hGw (.int .i64 M.val.num)) (i := 4) hGw (.string M.val.text))
  have HOT := Lib.hid (fun (bk : Nat) (q : Nat) (u : Value) (hbG : bk ≠ G) (h : w6.cell? ⟨bk, q, none⟩ = some u) => other_set hbG (.int .i64 M.kind) (.int .i64 M.count) (.int .i64 M.val.kind) (.int .i64 M.val.num) (.string M.val.text) h)
  clear rr
  go_simp
  refine hK.out _ _ (⟨HHB.out, HOT.out _ _ _ (by first | exact hn0 | exact hn1 | exact hn2) hHeld.2.1, HOT.out _ _ _ (by first | exact hn0 | exact hn1 | exact hn2) hHeld.2.2.1, HOT.out _ _ _ (by first | exact hn0 | exact hn1 | exact hn2) hHeld.2.2.2.1, HOT.out _ _ _ (by first | exact hn0 | exact hn1 | exact hn2) hHeld.2.2.2.2.1, HOT.out _ _ _ (by first | exact hn0 | exact hn1 | exact hn2) hHeld.2.2.2.2.2.1, HOT.out _ _ _ (by first | exact hn0 | exact hn1 | exact hn2) hHeld.2.2.2.2.2.2.1, HOT.out _ _ _ (by first | exact hn0 | exact hn1 | exact hn2) hHeld.2.2.2.2.2.2.2.1, HOT.out _ _ _ (by first | exact hn0 | exact hn1 | exact hn2) hHeld.2.2.2.2.2.2.2.2.1, HOT.out _ _ _ (by first | exact hn0 | exact hn1 | exact hn2) hHeld.2.2.2.2.2.2.2.2.2.1, AccIn.mk HQ.out⟩) (fun hHeld => ?_)
  clear hK K
  refine wpAnyH_done (by kernel_rfl) (NoPanic.normal ?_) _
  rotate_left 1
  go_wp2_with fail
  have q0 := blk_cell HQ.out 0
  have q1 := blk_cell HQ.out 1
  have q2 := blk_cell HQ.out 2
  have q3 := blk_cell HQ.out 3
  have q4 := blk_cell HQ.out 4
  exact bodyPost_ret (v := .agg #[.int .i64 M.kind, .int .i64 M.count, .int .i64 M.val.kind, .int .i64 M.val.num, .string M.val.text]) (by simp [results, Tryz.results205, go_sem, q0, q1, q2, q3, q4]) rfl ⟨rfl, HHB.out⟩

def accCells (a : Ac) : List Value := [.int .i64 a.kind, .int .i64 a.count, .int .i64 a.val.kind, .int .i64 a.val.num, .string a.val.text]
theorem other_one {W : World} {g b i : Nat} {o : Obj} (hne : b ≠ g) (v : Value) (h : W.heap[b]? = some o) : (W.setCell ⟨g, i, none⟩ v).heap[b]? = some o :=
  ((set_grown W g i v).block b (Array.getElem?_eq_some_iff.1 h).1 (fun e => hne (Option.some.inj e))).trans h
theorem other_heap {w : World} {g b : Nat} {o : Obj} (hne : b ≠ g) (a0 a1 a2 a3 a4 : Value) (h : w.heap[b]? = some o) : (((((w.setCell ⟨g, 0, none⟩ a0).setCell ⟨g, 1, none⟩ a1).setCell ⟨g, 2, none⟩ a2).setCell ⟨g, 3, none⟩ a3).setCell ⟨g, 4, none⟩ a4).heap[b]? = some o :=
  other_one hne _ (other_one hne _ (other_one hne _ (other_one hne _ (other_one hne _ h))))
/-- the fold of a list -/
def foldA (k : Int) (l : List Vl) : Ac := l.foldl (stepA k) ⟨k, 0, zeroVl⟩
theorem foldA_snoc {k : Int} {l : List Vl} {j : Nat} {x : Vl} (hx : l[j]? = some x) : foldA k (l.take (j + 1)) = stepA k (foldA k (l.take j)) x := by
  unfold foldA
  rw [take_snoc' hx, List.foldl_append]
  rfl
theorem foldA_ok {k : Int} {l : List Vl} (hk : knownB k = true) (hv : ∀ x ∈ l, wrongE k x = 0) : ∀ j : Nat, j ≤ l.length → AcOk k (foldA k (l.take j)) (j : Int)
  | 0, _ => ok_start k
  | j + 1, hj => by
    have ih := foldA_ok hk hv j (by omega)
    rw [foldA_snoc (List.getElem?_eq_getElem (by omega : j < l.length))]
    exact ok_step hk ih (by omega) (hv _ (List.getElem_mem _))
set_option maxRecDepth 100000 in
set_option maxHeartbeats 4000000 in
theorem folded_any (k : Int) (l : List Vl) (v : Value) (p : Nat) (w : World) (hl : IsVls w v l) (hp : w.cell? ⟨p, 0, none⟩ = some (.int .i64 k)) (hk : knownB k = true) (hv : ∀ x ∈ l, wrongE k x = 0) (hn : l.length ≤ 4096) :
    Calls Tryz.prog 204 #[.agg #[.int .i64 k, .int .i64 0, .int .i64 0, .int .i64 0, .string ⟨#[]⟩], v, .func (.func 205) #[] #[.pointer (some ⟨p, 0, none⟩)]] w fun e w' => e = .returned (accV (foldA k l)) ∧ Below w.heap.size w w' := by
  obtain ⟨A, c, rfl, h1, h2, hat⟩ := hl
  have hn63 := len_i64 h1 h2
  have HL := Lib.hid hat
  have HOK := Lib.hid (foldA_ok (l := l) hk hv)
  have HV := Lib.hid hv
  have HK := Lib.hid hk
  have HP := Lib.hid hp
  obtain ⟨RA, hRA⟩ : ∃ RA, foldA k l = RA := ⟨_, rfl⟩
  have HRA := Lib.hid hRA
  rw [hRA]
  clear hat h1 h2 hv hk hp hRA
  go_enter Tryz.func204, Tryz.ntmps204
  go_wp2_with fail
  obtain ⟨B3, hB3⟩ : ∃ B3, B3 = w.heap.size := ⟨_, rfl⟩
  obtain ⟨B6, hB6⟩ : ∃ B6, B6 = w.heap.size + 1 := ⟨_, rfl⟩
  refine wp_gen fun w1 e1 => ?_
  have hr3 : w1.heap[B3]? = some (.cells [.int .i64 k, .int .i64 0, .int .i64 0, .int .i64 0, .string ⟨#[]⟩].toArray 240 (0, 0)) := by rw [e1, hB3]; exact (Below.heap_alloc _ _ _ (by simp)).trans (heap_new' _ _ _ rfl)
  have hr6 : w1.heap[B6]? = some (.cells [.int .i64 0, .int .i64 0, .int .i64 0, .int .i64 0, .string ⟨#[]⟩].toArray 240 (0, 0)) := by rw [e1, hB6]; exact heap_new' _ _ _ (by simp)
  have hb1 : Below w.heap.size w w1 := by rw [e1]; exact (by repeat (first | exact Below.refl _ _ | assumption | refine Below.drew ?_ | refine bel_al ?_ _ | refine bel_set ?_ (by omega) _ | refine bel_tr ?_ (by assumption)))
  rw [← hB6, ← hB3]
  have hw3 : w.heap.size ≤ B3 := by omega
  have hw6 : w.heap.size ≤ B6 := by omega
  have h36 : B3 ≠ B6 := by omega
  clear e1 hB3 hB6
  have HR3 := Lib.hid hr3
  have HR6 := Lib.hid hr6
  have HB1 := Lib.hid hb1
  clear hr3 hr6 hb1
  go_loopw [11] (fun i wr => ∃ j : Nat, j ≤ l.length ∧ i = .int .i64 j ∧ Hid (wr.heap[B3]? = some (.cells (accCells (foldA k (l.take j))).toArray 240 (0, 0)) ∧ wr.heap[B6]? = some (.cells [.int .i64 0, .int .i64 0, .int .i64 0, .int .i64 0, .string ⟨#[]⟩].toArray 240 (0, 0)) ∧ Below w.heap.size w wr)) (fun i _ => l.length - (intOf i).toNat)
  case atStart => exact ⟨0, Nat.zero_le _, rfl, Lib.hid ⟨HR3.out, HR6.out, HB1.out⟩⟩
  case round =>
    obtain ⟨j, hj, rfl, hI⟩ := hrel
    obtain ⟨AJ, hAJ⟩ : ∃ AJ, foldA k (l.take j) = AJ := ⟨_, rfl⟩
    have hr3 := hI.out.1
    rw [hAJ] at hr3
    have x0 : wr.cell? ⟨B3, 0, none⟩ = some (.int .i64 AJ.kind) := by rw [blk_cell hr3]; rfl
    have x1 : wr.cell? ⟨B3, 1, none⟩ = some (.int .i64 AJ.count) := by rw [blk_cell hr3]; rfl
    have x2 : wr.cell? ⟨B3, 2, none⟩ = some (.int .i64 AJ.val.kind) := by rw [blk_cell hr3]; rfl
    have x3 : wr.cell? ⟨B3, 3, none⟩ = some (.int .i64 AJ.val.num) := by rw [blk_cell hr3]; rfl
    have x4 : wr.cell? ⟨B3, 4, none⟩ = some (.string AJ.val.text) := by rw [blk_cell hr3]; rfl
    have hl3 : B3 < wr.heap.size := blk_lt hr3
    have HR3' := Lib.hid hr3
    clear hr3
    by_cases hlt : j < l.length
    · have hj' : (j : Int) < (l.length : Int) := by omega
      obtain ⟨b, o, rfl, c0, c1, c2⟩ := HL.out j l[j] (List.getElem?_eq_getElem hlt)
      have hget := Lib.hid (List.getElem?_eq_getElem hlt)
      have hmem := HV.out l[j] (List.getElem_mem hlt)
      obtain ⟨y, hy⟩ : ∃ y, y = l[j] := ⟨_, rfl⟩
      rw [← hy] at c0 c1 c2 hget hmem
      replace c0 := cell_stays hI.out.2.2 c0
      replace c1 := cell_stays hI.out.2.2 c1
      replace c2 := cell_stays hI.out.2.2 c2
      have hbl : b < wr.heap.size := World.block_lt_of_cell? wr ⟨b, _, none⟩ c0
      have n1 : b ≠ wr.heap.size := by omega
      have n2 : wr.heap.size ≠ b := by omega
      have n3 : B3 ≠ wr.heap.size := by omega
      have n4 : wr.heap.size ≠ B3 := by omega
      have hok := HOK.out j hj
      rw [hAJ] at hok
      obtain ⟨NX, hNX⟩ : ∃ NX, stepA k AJ y = NX := ⟨_, rfl⟩
      have HNX : Hid (foldA k (l.take (j + 1)) = NX) := Lib.hid (by rw [foldA_snoc hget.out, hAJ, hNX])
      have HST : Hid (∀ W, Below wr.heap.size wr W → Calls Tryz.prog 205 #[.agg #[.int .i64 AJ.kind, .int .i64 AJ.count, .int .i64 AJ.val.kind, .int .i64 AJ.val.num, .string AJ.val.text], .agg #[.int .i64 y.kind, .int .i64 y.num, .string y.text], .pointer (some ⟨p, 0, none⟩)] W fun e w' => e = .returned (accV NX) ∧ Below W.heap.size W w') := Lib.hid (fun W hW => by
        rw [← hNX]
        exact of1_any k j AJ y p W (cell_stays (bel_tr hI.out.2.2 hW) HP.out) HK.out hok (by omega) hmem)
      unfold accV at HST
      clear hy hmem hok hNX hAJ
      go_wp2_with fail
      refine calls_gen fun W9 e9 => ?_
      have hb9 : Below wr.heap.size wr W9 := by rw [e9]; exact (by repeat (first | exact Below.refl _ _ | assumption | refine Below.drew ?_ | refine bel_al ?_ _ | refine bel_set ?_ (by omega) _ | refine bel_tr ?_ (by assumption)))
      clear e9
      refine (HST.out W9 hb9).mono ?_
      rintro e w5 ⟨rfl, hb5⟩
      have hb95 := bel_tr hb9 hb5
      have rr := (hb95.block B3 hl3).trans HR3'.out
      have z0 : w5.cell? ⟨B3, 0, none⟩ = some (.int .i64 AJ.kind) := by rw [blk_cell rr]; rfl
      have z1 : w5.cell? ⟨B3, 1, none⟩ = some (.int .i64 AJ.count) := by rw [blk_cell rr]; rfl
      have z2 : w5.cell? ⟨B3, 2, none⟩ = some (.int .i64 AJ.val.kind) := by rw [blk_cell rr]; rfl
      have z3 : w5.cell? ⟨B3, 3, none⟩ = some (.int .i64 AJ.val.num) := by rw [blk_cell rr]; rfl
      have z4 : w5.cell? ⟨B3, 4, none⟩ = some (.string AJ.val.text) := by rw [blk_cell rr]; rfl
      have f0 := blk_frozen rr 0
      have f1 := blk_frozen rr 1
      have f2 := blk_frozen rr 2
      have f3 := blk_frozen rr 3
      have f4 := blk_frozen rr 4
      have HRR := Lib.hid rr
      have H95 := Lib.hid hb95
      clear rr hb9 hb5 hb95 x0 x1 x2 x3 x4 c0 c1 c2 n1 n2 n3 n4
      go_wp2_with fail
      go_roundw
      case rel =>
        refine ⟨j + 1, by omega, by go_num, Lib.hid ⟨?_, ?_, ?_⟩⟩
        · rw [HNX.out]; exact accBlk_set HRR.out _ _ _ _ _
        · exact other_heap (fun e => h36 e.symm) _ _ _ _ _ (((H95.out.block B6 (blk_lt hI.out.2.1))).trans hI.out.2.1)
        · exact bel_set (bel_set (bel_set (bel_set (bel_set (bel_tr hI.out.2.2 H95.out) hw3 _) hw3 _) hw3 _) hw3 _) hw3 _
      case measure => simp [intOf]; omega
    · have hj' : ¬ (j : Int) < (l.length : Int) := by omega
      have hal : AJ = RA := by rw [← HRA.out, ← hAJ, List.take_of_length_le (by omega)]
      subst hal
      have rr := hI.out.2.1
      have z0 : wr.cell? ⟨B6, 0, none⟩ = some (.int .i64 0) := by rw [blk_cell rr]; rfl
      have z1 : wr.cell? ⟨B6, 1, none⟩ = some (.int .i64 0) := by rw [blk_cell rr]; rfl
      have z2 : wr.cell? ⟨B6, 2, none⟩ = some (.int .i64 0) := by rw [blk_cell rr]; rfl
      have z3 : wr.cell? ⟨B6, 3, none⟩ = some (.int .i64 0) := by rw [blk_cell rr]; rfl
      have z4 : wr.cell? ⟨B6, 4, none⟩ = some (.string ⟨#[]⟩) := by rw [blk_cell rr]; rfl
      have f0 := blk_frozen rr 0
      have f1 := blk_frozen rr 1
      have f2 := blk_frozen rr 2
      have f3 := blk_frozen rr 3
      have f4 := blk_frozen rr 4
      have HQ := Lib.hid (accBlk_set rr (.int .i64 AJ.kind) (.int .i64 AJ.count) (.int .i64 AJ.val.kind) (.int .i64 AJ.val.num) (.string AJ.val.text))
      clear rr hAJ
      go_wp2_with fail
      have q0 := blk_cell HQ.out 0
      have q1 := blk_cell HQ.out 1
      have q2 := blk_cell HQ.out 2
      have q3 := blk_cell HQ.out 3
      have q4 := blk_cell HQ.out 4
      exact bodyPost_ret (v := .agg #[.int .i64 AJ.kind, .int .i64 AJ.count, .int .i64 AJ.val.kind, .int .i64 AJ.val.num, .string AJ.val.text]) (by simp [results, Tryz.results204, go_sem, q0, q1, q2, q3, q4]) rfl ⟨rfl, bel_set (bel_set (bel_set (bel_set (bel_set hI.out.2.2 hw6 _) hw6 _) hw6 _) hw6 _) hw6 _⟩

end Go.Proofs.YtclpglgigpjfoaaGreatDoor
namespace Go.Proofs.YtclpglgigpjfoaaGreatDoor
open Go.RowKit

def firstW (k : Int) (l : List Vl) : Int := scanE (fun _ v => wrongE k v) none l
def ofR (k : Int) (l : List Vl) (o : Vl) : Vl × Int :=
  if knownB k = false then (zeroVl, 1) else if 4096 < l.length then (zeroVl, 5) else if firstW k l ≠ 0 then (zeroVl, firstW k l) else resR k l.length (foldA k l) o
theorem scan_all {α : Type} {g : α → Int} : ∀ (l : List α) (p : Option α), scanE (fun _ b => g b) p l = 0 → ∀ b ∈ l, g b = 0
  | [], _, _, b, hb => by simp at hb
  | x :: l, p, h, b, hb => by
    simp only [scanE] at h
    split at h
    · next e =>
      rcases List.mem_cons.1 hb with rfl | hb
      · exact e
      · exact scan_all l _ h b hb
    · next e => exact absurd h e
set_option maxRecDepth 100000 in
set_option maxHeartbeats 8000000 in
theorem aof_any (k : Int) (l : List Vl) (o : Vl) (v : Value) (w : World) (hl : IsVls w v l) :
    Calls Tryz.prog 189 #[.int .i64 k, v, vlV o] w fun e w' => e = .returned (.tuple #[vlV (ofR k l o).1, .int .i64 (ofR k l o).2]) ∧ Below w.heap.size w w' := by
  have HIS := Lib.hid hl
  obtain ⟨A, c, rfl, h1, h2, hat⟩ := hl
  have hn63 := len_i64 h1 h2
  have HL := Lib.hid hat
  obtain ⟨⟨RV, re⟩, hR⟩ : ∃ r, ofR k l o = r := ⟨_, rfl⟩
  have HR := Lib.hid hR
  rw [hR]
  unfold vlV
  clear hat h1 h2 hR
  obtain ⟨kb, hkb⟩ : ∃ kb, knownB k = kb := ⟨_, rfl⟩
  have HKB := Lib.hid hkb
  clear hkb
  go_enter Tryz.func189, Tryz.ntmps189
  go_wp2_with fail
  refine calls_gen fun W9 e9 => ?_
  have x0 : W9.cell? ⟨w.heap.size, 0, none⟩ = some (.int .i64 k) := by rw [e9]; go_simp
  have y0 : W9.cell? ⟨w.heap.size + 1, 0, none⟩ = some (.int .i64 o.kind) := by rw [e9]; go_simp
  have y1 : W9.cell? ⟨w.heap.size + 1, 1, none⟩ = some (.int .i64 o.num) := by rw [e9]; go_simp
  have y2 : W9.cell? ⟨w.heap.size + 1, 2, none⟩ = some (.string o.text) := by rw [e9]; go_simp
  have hr : W9.heap[w.heap.size + 2]? = some (.cells [.int .i64 0, .int .i64 0, .string ⟨#[]⟩].toArray 88 (0, 0)) := by rw [e9]; exact heap_new' _ _ _ (by simp)
  have hb9 : Below w.heap.size w W9 := by rw [e9]; exact (by repeat (first | exact Below.refl _ _ | assumption | refine Below.drew ?_ | refine bel_al ?_ _ | refine bel_set ?_ (by omega) _ | refine bel_tr ?_ (by assumption)))
  clear e9
  refine (known_any k W9).mono ?_
  rw [HKB.out]
  rintro e w1 ⟨rfl, rfl⟩
  obtain ⟨B6, hB6⟩ : ∃ B6, B6 = w.heap.size + 2 := ⟨_, rfl⟩
  rw [show w.heap.size + 1 + 1 = w.heap.size + 2 from rfl]
  rw [← hB6] at hr ⊢
  have hw6 : w.heap.size ≤ B6 := by omega
  have HRR := Lib.hid hr
  have HB1 := Lib.hid hb9
  clear hr hb9 hB6
  cases kb with
  | false =>
    obtain ⟨e1, e2⟩ : (⟨0, 0, ⟨#[]⟩⟩ : Vl) = RV ∧ 1 = re := by have h := HR.out; unfold ofR at h; rw [if_pos HKB.out] at h; injection h with h1 h2; exact ⟨h1, h2⟩
    subst e1 e2
    have rr := HRR.out
    have z0 : W9.cell? ⟨B6, 0, none⟩ = some (.int .i64 0) := by rw [blk_cell rr]; rfl
    have z1 : W9.cell? ⟨B6, 1, none⟩ = some (.int .i64 0) := by rw [blk_cell rr]; rfl
    have z2 : W9.cell? ⟨B6, 2, none⟩ = some (.string ⟨#[]⟩) := by rw [blk_cell rr]; rfl
    have f0 := blk_frozen rr 0
    have f1 := blk_frozen rr 1
    have f2 := blk_frozen rr 2
    have HQ := Lib.hid (three_set rr (.int .i64 0) (.int .i64 0) (.string ⟨#[]⟩))
    have HQB := Lib.hid (bel_set (bel_set (bel_set (HB1.out) (i := 0) hw6 (.int .i64 0)) (i := 1) hw6 (.int .i64 0)) (i := 2) hw6 (.string ⟨#[]⟩))
    clear rr
    go_wp2_with fail
    have r0 := blk_cell HQ.out 0
    have r1 := blk_cell HQ.out 1
    have r2 := blk_cell HQ.out 2
    exact bodyPost_ret (v := .tuple #[.agg #[.int .i64 0, .int .i64 0, .string ⟨#[]⟩], .int .i64 1]) (by simp [results, Tryz.results189, go_sem, r0, r1, r2]) rfl ⟨rfl, HQB.out⟩
  | true =>
  by_cases hlen : 4096 < l.length
  · have hlen' : (4096 : Int) < (l.length : Int) := by omega
    obtain ⟨e1, e2⟩ : (⟨0, 0, ⟨#[]⟩⟩ : Vl) = RV ∧ 5 = re := by have h := HR.out; unfold ofR at h; rw [if_neg (by rw [HKB.out]; simp), if_pos hlen] at h; injection h with h1 h2; exact ⟨h1, h2⟩
    subst e1 e2
    have rr := HRR.out
    have z0 : W9.cell? ⟨B6, 0, none⟩ = some (.int .i64 0) := by rw [blk_cell rr]; rfl
    have z1 : W9.cell? ⟨B6, 1, none⟩ = some (.int .i64 0) := by rw [blk_cell rr]; rfl
    have z2 : W9.cell? ⟨B6, 2, none⟩ = some (.string ⟨#[]⟩) := by rw [blk_cell rr]; rfl
    have f0 := blk_frozen rr 0
    have f1 := blk_frozen rr 1
    have f2 := blk_frozen rr 2
    have HQ := Lib.hid (three_set rr (.int .i64 0) (.int .i64 0) (.string ⟨#[]⟩))
    have HQB := Lib.hid (bel_set (bel_set (bel_set (HB1.out) (i := 0) hw6 (.int .i64 0)) (i := 1) hw6 (.int .i64 0)) (i := 2) hw6 (.string ⟨#[]⟩))
    clear rr
    go_wp2_with fail
    have r0 := blk_cell HQ.out 0
    have r1 := blk_cell HQ.out 1
    have r2 := blk_cell HQ.out 2
    exact bodyPost_ret (v := .tuple #[.agg #[.int .i64 0, .int .i64 0, .string ⟨#[]⟩], .int .i64 5]) (by simp [results, Tryz.results189, go_sem, r0, r1, r2]) rfl ⟨rfl, HQB.out⟩
  have hlen' : ¬ (4096 : Int) < (l.length : Int) := by omega
  have HR2 : Hid ((if firstW k l ≠ 0 then (zeroVl, firstW k l) else resR k l.length (foldA k l) o) = (RV, re)) := Lib.hid (by have h := HR.out; unfold ofR at h; rwa [if_neg (by rw [HKB.out]; simp), if_neg hlen] at h)
  have HLEN := Lib.hid hlen
  have X0 := Lib.hid x0
  have Y0 := Lib.hid y0
  have Y1 := Lib.hid y1
  have Y2 := Lib.hid y2
  clear hlen x0 y0 y1 y2
  go_wp2_with fail
  go_loopw [24] (fun i wr => ∃ j : Nat, j ≤ l.length ∧ i = .int .i64 j ∧ Hid (scanE (fun _ v => wrongE k v) (prevL l j) (l.drop j) = firstW k l ∧ Below W9.heap.size W9 wr)) (fun i _ => l.length - (intOf i).toNat)
  case atStart => exact ⟨0, Nat.zero_le _, rfl, Lib.hid ⟨rfl, Below.refl _ _⟩⟩
  case round =>
    obtain ⟨j, hj, rfl, hI⟩ := hrel
    have hb := hI.out.2
    by_cases hlt : j < l.length
    · have hj' : (j : Int) < (l.length : Int) := by omega
      obtain ⟨b, o', rfl, c0, c1, c2⟩ := HL.out j l[j] (List.getElem?_eq_getElem hlt)
      have hget := Lib.hid (List.getElem?_eq_getElem hlt)
      obtain ⟨y, hy⟩ : ∃ y, y = l[j] := ⟨_, rfl⟩
      rw [← hy] at c0 c1 c2 hget
      have hbw := bel_tr HB1.out hb
      replace c0 := cell_stays hbw c0
      replace c1 := cell_stays hbw c1
      replace c2 := cell_stays hbw c2
      have x0 := cell_stays hb X0.out
      have hbl : b < wr.heap.size := World.block_lt_of_cell? wr ⟨b, _, none⟩ c0
      have hxl : w.heap.size < wr.heap.size := World.block_lt_of_cell? wr ⟨w.heap.size, _, none⟩ x0
      have n1 : b ≠ wr.heap.size := by omega
      have n2 : wr.heap.size ≠ b := by omega
      have n3 : w.heap.size ≠ wr.heap.size := by omega
      have n4 : wr.heap.size ≠ w.heap.size := by omega
      obtain ⟨ey, hey⟩ : ∃ ey, wrongE k y = ey := ⟨_, rfl⟩
      have HEY := Lib.hid hey
      have HWR := Lib.hid (fun W => wrong_any k y W HKB.out)
      rw [hey] at HWR
      unfold vlV at HWR
      clear hy hey hbw
      go_wp2_with fail
      refine calls_gen fun W8 e8 => ?_
      have hb8 : Below wr.heap.size wr W8 := by rw [e8]; exact (by repeat (first | exact Below.refl _ _ | assumption | refine Below.drew ?_ | refine bel_al ?_ _ | refine bel_set ?_ (by omega) _ | refine bel_tr ?_ (by assumption)))
      clear e8
      refine (HWR.out W8).mono ?_
      rintro e w5 ⟨rfl, hb5⟩
      have H5 := Lib.hid (bel_tr hb (bel_tr hb8 hb5))
      clear hb8 hb5 x0 c0 c1 c2 n1 n2 n3 n4 hb
      by_cases hz : ey = 0
      · subst hz
        go_wp2_with fail
        go_roundw
        case rel => exact ⟨j + 1, by omega, by go_num, Lib.hid ⟨scan_go hget.out hI.out.1 HEY.out, H5.out⟩⟩
        case measure => simp [intOf]; omega
      · have hz' : (ey != 0) = true := by simpa using hz
        have hf : firstW k l = ey := (scan_stop hget.out hI.out.1 HEY.out hz).symm
        obtain ⟨e1, e2⟩ : (⟨0, 0, ⟨#[]⟩⟩ : Vl) = RV ∧ ey = re := by have h := HR2.out; rw [hf, if_pos hz] at h; injection h with h1 h2; exact ⟨h1, h2⟩
        subst e1 e2
        clear hz hf
        have rr := (H5.out.block B6 (blk_lt HRR.out)).trans HRR.out
        have z0 : w5.cell? ⟨B6, 0, none⟩ = some (.int .i64 0) := by rw [blk_cell rr]; rfl
        have z1 : w5.cell? ⟨B6, 1, none⟩ = some (.int .i64 0) := by rw [blk_cell rr]; rfl
        have z2 : w5.cell? ⟨B6, 2, none⟩ = some (.string ⟨#[]⟩) := by rw [blk_cell rr]; rfl
        have f0 := blk_frozen rr 0
        have f1 := blk_frozen rr 1
        have f2 := blk_frozen rr 2
        have HQ := Lib.hid (three_set rr (.int .i64 0) (.int .i64 0) (.string ⟨#[]⟩))
        have HQB := Lib.hid (bel_set (bel_set (bel_set (bel_tr HB1.out H5.out) (i := 0) hw6 (.int .i64 0)) (i := 1) hw6 (.int .i64 0)) (i := 2) hw6 (.string ⟨#[]⟩))
        clear rr
        go_wp2_with fail
        have r0 := blk_cell HQ.out 0
        have r1 := blk_cell HQ.out 1
        have r2 := blk_cell HQ.out 2
        exact bodyPost_ret (v := .tuple #[.agg #[.int .i64 0, .int .i64 0, .string ⟨#[]⟩], .int .i64 ey]) (by simp [results, Tryz.results189, go_sem, r0, r1, r2]) rfl ⟨rfl, HQB.out⟩
    · have hj' : ¬ (j : Int) < (l.length : Int) := by omega
      have hf : firstW k l = 0 := by
        have h := hI.out.1
        rw [List.drop_of_length_le (by omega)] at h
        simpa [scanE] using h.symm
      have hres : resR k l.length (foldA k l) o = (RV, re) := by have h := HR2.out; rwa [hf, if_neg (by simp)] at h
      have hall := scan_all l none hf
      have hok := foldA_ok HKB.out hall l.length (Nat.le_refl _)
      rw [List.take_length] at hok
      have hbw := bel_tr HB1.out hb
      have x0 := cell_stays hb X0.out
      have y0 := cell_stays hb Y0.out
      have y1 := cell_stays hb Y1.out
      have y2 := cell_stays hb Y2.out
      have HFO := Lib.hid (folded_any k l _ w.heap.size wr (HIS.out.stays vlAt_stays hbw) x0 HKB.out hall (by have := HLEN.out; omega))
      obtain ⟨FA, hFA⟩ : ∃ FA, foldA k l = FA := ⟨_, rfl⟩
      rw [hFA] at HFO hres hok
      have HRS := Lib.hid (fun W => aresult_ok k l.length FA o W HKB.out hok (by have := HLEN.out; omega))
      rw [hres] at HRS
      unfold accV at HFO HRS
      unfold vlV at HRS
      clear hf hres hall hok hFA
      go_wp2_with fail
      refine HFO.out.mono ?_
      rintro e w5 ⟨rfl, hb5⟩
      replace y0 := cell_stays hb5 y0
      replace y1 := cell_stays hb5 y1
      replace y2 := cell_stays hb5 y2
      have hyl : w.heap.size + 1 < w5.heap.size := World.block_lt_of_cell? w5 ⟨w.heap.size + 1, _, none⟩ y0
      have n1 : w.heap.size + 1 ≠ w5.heap.size := by omega
      have n2 : w5.heap.size ≠ w.heap.size + 1 := by omega
      have H5 := Lib.hid (bel_tr hb hb5)
      clear hb hb5 hbw x0
      go_wp2_with fail
      refine calls_gen fun W8 e8 => ?_
      have hb8 : Below w5.heap.size w5 W8 := by rw [e8]; exact (by repeat (first | exact Below.refl _ _ | assumption | refine Below.drew ?_ | refine bel_al ?_ _ | refine bel_set ?_ (by omega) _ | refine bel_tr ?_ (by assumption)))
      clear e8
      refine (HRS.out W8).mono ?_
      rintro e w6 ⟨rfl, hb6⟩
      have H6 := Lib.hid (bel_tr H5.out (bel_tr hb8 hb6))
      clear hb8 hb6 y0 y1 y2 n1 n2 hyl
      have rr := (H6.out.block B6 (blk_lt HRR.out)).trans HRR.out
      have z0 : w6.cell? ⟨B6, 0, none⟩ = some (.int .i64 0) := by rw [blk_cell rr]; rfl
      have z1 : w6.cell? ⟨B6, 1, none⟩ = some (.int .i64 0) := by rw [blk_cell rr]; rfl
      have z2 : w6.cell? ⟨B6, 2, none⟩ = some (.string ⟨#[]⟩) := by rw [blk_cell rr]; rfl
      have f0 := blk_frozen rr 0
      have f1 := blk_frozen rr 1
      have f2 := blk_frozen rr 2
      have HQ := Lib.hid (three_set rr (.int .i64 RV.kind) (.int .i64 RV.num) (.string RV.text))
      have HQB := Lib.hid (bel_set (bel_set (bel_set (bel_tr HB1.out H6.out) (i := 0) hw6 (.int .i64 RV.kind)) (i := 1) hw6 (.int .i64 RV.num)) (i := 2) hw6 (.string RV.text))
      clear rr
      go_wp2_with fail
      have r0 := blk_cell HQ.out 0
      have r1 := blk_cell HQ.out 1
      have r2 := blk_cell HQ.out 2
      exact bodyPost_ret (v := .tuple #[.agg #[.int .i64 RV.kind, .int .i64 RV.num, .string RV.text], .int .i64 re]) (by simp [results, Tryz.results189, go_sem, r0, r1, r2]) rfl ⟨rfl, HQB.out⟩
end Go.Proofs.YtclpglgigpjfoaaGreatDoor
