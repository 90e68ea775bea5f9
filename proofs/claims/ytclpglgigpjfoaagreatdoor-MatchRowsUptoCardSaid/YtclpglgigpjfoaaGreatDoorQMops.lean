/- Operations: a boolean as a value, the map of operations and the operations themselves. -/
import Derived.Test.YtclpglgigpjfoaaGreatDoorQMvrow
import Derived.Test.YtclpglgigpjfoaaGreatDoorQMval
import Derived.WideMake
namespace Go.Proofs.YtclpglgigpjfoaaGreatDoor
open Go.RowKit

theorem heap_stays {w w' : World} {m : Nat} {o : Obj} (hb : Below w.heap.size w w') (h : w.heap[m]? = some o) : w'.heap[m]? = some o := (hb.block m (Array.getElem?_eq_some_iff.1 h).1).trans h
theorem heap_old {W : World} {k : Nat} {o x : Obj} (h : W.heap[k]? = some x) : (W.alloc o).heap[k]? = some x := heap_stays (bel_one W o) h
/-- a box of one value, to be written -/
def VBox (W : World) (B : Nat) : Prop := ∃ a b c, W.heap[B]? = some (.cells [a, b, c].toArray 88 (0, 0))
theorem VBox.stays {w w' : World} {B : Nat} (h : VBox w B) (hb : Below w.heap.size w w') : VBox w' B := by
  obtain ⟨a, b, c, h⟩ := h
  exact ⟨a, b, c, heap_stays hb h⟩
theorem VBox.lt {w : World} {B : Nat} (h : VBox w B) : B < w.heap.size := by
  obtain ⟨a, b, c, h⟩ := h
  exact blk_lt h
theorem VBox.facts {W : World} {B : Nat} (h : VBox W B) : ∃ a b c, W.cell? ⟨B, 0, none⟩ = some a ∧ W.cell? ⟨B, 1, none⟩ = some b ∧ W.cell? ⟨B, 2, none⟩ = some c ∧ W.frozen? ⟨B, 0, none⟩ = false ∧ W.frozen? ⟨B, 1, none⟩ = false ∧ W.frozen? ⟨B, 2, none⟩ = false := by
  obtain ⟨a, b, c, h⟩ := h
  exact ⟨a, b, c, blk_cell h 0, blk_cell h 1, blk_cell h 2, blk_frozen h 0, blk_frozen h 1, blk_frozen h 2⟩
theorem cell_set_self (w : World) (b i : Nat) (v : Value) : (w.setCell ⟨b, i, none⟩ v).cell? ⟨b, i, none⟩ = (w.cell? ⟨b, i, none⟩).map fun _ => v := by
  unfold World.setCell World.cell?
  simp only [Array.getElem?_modify, if_true]
  cases h : w.heap[b]? with
  | none => rfl
  | some o =>
    cases o <;> simp [Array.getElem?_setIfInBounds] 
    all_goals (try split) <;> simp_all
theorem bel_3 {w W : World} (h : Below w.heap.size w W) {b : Nat} (hb : w.heap.size ≤ b) (x y z : Value) : Below w.heap.size w (((W.setCell ⟨b, 0, none⟩ x).setCell ⟨b, 1, none⟩ y).setCell ⟨b, 2, none⟩ z) := bel_set (bel_set (bel_set h hb _) hb _) hb _

theorem vbox_new {w w' : World} {a b c : Value} (hb : Below (w.alloc (.cells [a, b, c].toArray 88 (0, 0))).heap.size (w.alloc (.cells [a, b, c].toArray 88 (0, 0))) w') : VBox w' w.heap.size := ⟨a, b, c, heap_stays hb (heap_new' _ _ _ rfl)⟩
theorem vbool_any (b : Bool) (w : World) : Calls Tryz.prog 170 #[.bool b] w fun e w' => e = .returned (vlV (flagV b)) ∧ Below w.heap.size w w' := by
  unfold vlV flagV
  cases b
  all_goals
    go_enter Tryz.func170, Tryz.ntmps170
    go_wp2_with fail
    go_returns
    exact ⟨rfl, (by repeat (first | exact Below.refl _ _ | assumption | refine Below.drew ?_ | refine bel_al ?_ _ | refine bel_set ?_ (by omega) _ | refine bel_tr ?_ (by assumption)))⟩
theorem flag_any (b : Bool) (w : World) : Calls Tryz.prog 147 #[.bool b] w fun e w' => e = .returned (vlV (flagV b)) ∧ Below w.heap.size w w' := by
  obtain ⟨x, hx⟩ : ∃ x, flagV b = x := ⟨_, rfl⟩
  have HB := Lib.hid (fun W => vbool_any b W)
  rw [hx] at HB ⊢
  clear hx
  unfold vlV at *
  go_enter Tryz.func147, Tryz.ntmps147
  go_wp2_with fail
  refine (HB.out _).mono ?_
  rintro e w1 ⟨rfl, hb1⟩
  obtain ⟨a0, b0, c0, z0, z1, z2, f0, f1, f2⟩ := (vbox_new hb1).facts
  go_wp2_with fail
  exact bodyPost_ret (v := vlV x) (by simp [results, Tryz.results147, go_sem, cell_set_self, z0, z1, z2, vlV]) rfl ⟨rfl, bel_3 (bel_tr (bel_one w _) hb1) (Nat.le_refl _) _ _ _⟩
theorem rflag_any (b : Bool) (w : World) : Calls Tryz.prog 181 #[.bool b] w fun e w' => e = .returned (vlV (flagV b)) ∧ Below w.heap.size w w' := by
  unfold vlV flagV
  cases b
  all_goals
    go_enter Tryz.func181, Tryz.ntmps181
    go_wp2_with fail
    go_returns
    exact ⟨rfl, (by repeat (first | exact Below.refl _ _ | assumption | refine Below.drew ?_ | refine bel_al ?_ _ | refine bel_set ?_ (by omega) _ | refine bel_tr ?_ (by assumption)))⟩

theorem opsT : Tryz.prog.underlying 183 = some (.map 3 205) := by kernel_rfl
theorem wpList_insert_int (w : World) {ops : Array Oper} {rest : List Oper} {o : Oper} {a : Act} {Q : Exit → Act → World → Prop}
    (hgd : o.guard = none) (m x v : Operand) (hop : o.op = Op.insert 183 m x v) (b : Nat) (k : Int) (u : Value) (es : Array MapEntry) (clock : Nat)
    (hm : a.eval m = .map (some b)) (hx : a.eval x = .int .i64 k) (hv : a.eval v = u) (hb : w.heap[b]? = some (.map es clock)) (hf : Instr.findNow (.int .i64) (.int .i64 k) es.toList 0 = some none)
    (hK : ∀ w', w'.heap[b]? = some (.map (es.push { key := .int .i64 k, val := u, born := clock }) (clock + 1)) → w.grownBy w' (some b) → wpList Tryz.prog ops Q rest (a.put o.dst undef) w') : wpList Tryz.prog ops Q (o :: rest) a w := by
  refine wpList_plain hgd fun K' hK' => ?_
  have hc : (Instr.checkKey false 10000 3 (.int .i64 k)).run Tryz.prog w = .ok () w := MapKept.run_checkKey (k := .int .i64 k) Tryz.underlying3 (by simp [MapKept.IsKey]) false 9999
  have hrun : (Instr.mapUpdate 183 (.map (some b)) (.int .i64 k) u).run Tryz.prog w = .ok () { w with heap := w.heap.setIfInBounds b (.map (es.push { key := .int .i64 k, val := u, born := clock }) (clock + 1)) } := by
    simp [Instr.mapUpdate, run_underlying opsT, MapKept.run_getObj_map hb, hc, MapKept.run_findKey Tryz.underlying3 hf, MapKept.run_setObj_map _ hb, Result.andThen]
  unfold Oper.wp
  simp [execOp, hop, hm, hx, hv, hrun, Result.andThen]
  have h2 := MapKept.heap_set (o' := .map (es.push { key := .int .i64 k, val := u, born := clock }) (clock + 1)) hb
  exact hK' _ _ (hK _ h2.1 ⟨rfl, rfl, rfl, by simp, fun i hi hne => h2.2 i (fun e => hne (by rw [e]))⟩)
theorem wpList_lookup_int (w : World) {ops : Array Oper} {rest : List Oper} {o : Oper} {a : Act} {Q : Exit → Act → World → Prop}
    (hgd : o.guard = none) (m x : Operand) (hop : o.op = Op.lookup 183 m x false) (b : Nat) (k : Int) (i : Nat) (u : Value) (es : Array MapEntry) (clock : Nat)
    (hm : a.eval m = .map (some b)) (hx : a.eval x = .int .i64 k) (hb : w.heap[b]? = some (.map es clock)) (hf : Instr.findNow (.int .i64) (.int .i64 k) es.toList 0 = some (some (i, u)))
    (hK : wpList Tryz.prog ops Q rest (a.put o.dst u) w) : wpList Tryz.prog ops Q (o :: rest) a w := by
  refine wpList_plain hgd fun K' hK' => ?_
  have hc : ∀ e, (Instr.checkKey e 10000 3 (.int .i64 k)).run Tryz.prog w = .ok () w := fun e => MapKept.run_checkKey (k := .int .i64 k) Tryz.underlying3 (by simp [MapKept.IsKey]) e 9999
  have hrun : (Instr.lookup 183 (.map (some b)) (.int .i64 k) false).run Tryz.prog w = .ok u w := by
    simp [Instr.lookup, run_underlying opsT, MapKept.run_getObj_map hb, hc, MapKept.run_findKey Tryz.underlying3 hf, Result.andThen]
  unfold Oper.wp
  simp [execOp, hop, hm, hx, hrun, Result.andThen]
  exact hK' _ _ hK
/-- the entries of the map of operations -/
def opEs (g : Nat) : Array MapEntry := #[⟨.int .i64 5, .func (.func 144) #[] #[.pointer (some ⟨g, 0, none⟩)], 0⟩, ⟨.int .i64 6, .func (.func 145) #[] #[.pointer (some ⟨g, 0, none⟩)], 1⟩,
  ⟨.int .i64 7, .func (.func 146) #[] #[], 2⟩, ⟨.int .i64 8, .func (.func 148) #[] #[], 3⟩, ⟨.int .i64 10, .func (.func 149) #[] #[], 4⟩,
  ⟨.int .i64 11, .func (.func 150) #[] #[], 5⟩, ⟨.int .i64 12, .func (.func 151) #[] #[], 6⟩]
def OpsAt (w : World) (m : Nat) : Prop := ∃ g, w.heap[m]? = some (.map (opEs g) 7) ∧ w.cell? ⟨g, 0, none⟩ = some (.func (.func 143) #[] #[])
theorem OpsAt.stays {w w' : World} {m : Nat} (h : OpsAt w m) (hb : Below w.heap.size w w') : OpsAt w' m := by
  obtain ⟨g, h1, h2⟩ := h
  exact ⟨g, heap_stays hb h1, cell_stays hb h2⟩
theorem opnum_any (n : Int) (w : World) : Calls Tryz.prog 143 #[.int .i64 n] w fun e w' => e = .returned (vlV (numV n)) ∧ Below w.heap.size w w' := by
  unfold vlV numV
  go_enter Tryz.func143, Tryz.ntmps143
  go_wp2_with fail
  go_returns
  exact ⟨rfl, (by repeat (first | exact Below.refl _ _ | assumption | refine Below.drew ?_ | refine bel_al ?_ _ | refine bel_set ?_ (by omega) _ | refine bel_tr ?_ (by assumption)))⟩
set_option maxRecDepth 100000 in
theorem op5_any (a b : Int) (g : Nat) (w : World) (hg : w.cell? ⟨g, 0, none⟩ = some (.func (.func 143) #[] #[])) :
    Calls Tryz.prog 144 #[.int .i64 a, .int .i64 b, .pointer (some ⟨g, 0, none⟩)] w fun e w' => e = .returned (vlV (numV (IntKind.i64.wrap (a + b)))) ∧ Below w.heap.size w w' := by
  obtain ⟨n, hn⟩ : ∃ n, IntKind.i64.wrap (a + b) = n := ⟨_, rfl⟩
  have HN := Lib.hid (fun W => opnum_any n W)
  rw [hn]
  obtain ⟨x, hx⟩ : ∃ x, numV n = x := ⟨_, rfl⟩
  rw [hx] at HN ⊢
  clear hx
  have hgl : g < w.heap.size := World.block_lt_of_cell? w ⟨g, _, none⟩ hg
  have hgn : g ≠ w.heap.size := by omega
  unfold vlV at *
  go_enter Tryz.func144, Tryz.ntmps144
  go_wp2_with fail
  refine (HN.out _).mono ?_
  rintro e w1 ⟨rfl, hb1⟩
  obtain ⟨a0, b0, c0, z0, z1, z2, f0, f1, f2⟩ := (vbox_new hb1).facts
  go_wp2_with fail
  exact bodyPost_ret (v := vlV x) (by simp [results, Tryz.results144, go_sem, cell_set_self, z0, z1, z2, vlV]) rfl ⟨rfl, bel_3 (bel_tr (bel_one w _) hb1) (Nat.le_refl _) _ _ _⟩
set_option maxRecDepth 100000 in
theorem op6_any (a b : Int) (g : Nat) (w : World) (hg : w.cell? ⟨g, 0, none⟩ = some (.func (.func 143) #[] #[])) :
    Calls Tryz.prog 145 #[.int .i64 a, .int .i64 b, .pointer (some ⟨g, 0, none⟩)] w fun e w' => e = .returned (vlV (numV (IntKind.i64.wrap (a - b)))) ∧ Below w.heap.size w w' := by
  obtain ⟨n, hn⟩ : ∃ n, IntKind.i64.wrap (a - b) = n := ⟨_, rfl⟩
  have HN := Lib.hid (fun W => opnum_any n W)
  rw [hn]
  obtain ⟨x, hx⟩ : ∃ x, numV n = x := ⟨_, rfl⟩
  rw [hx] at HN ⊢
  clear hx
  have hgl : g < w.heap.size := World.block_lt_of_cell? w ⟨g, _, none⟩ hg
  have hgn : g ≠ w.heap.size := by omega
  unfold vlV at *
  go_enter Tryz.func145, Tryz.ntmps145
  go_wp2_with fail
  refine (HN.out _).mono ?_
  rintro e w1 ⟨rfl, hb1⟩
  obtain ⟨a0, b0, c0, z0, z1, z2, f0, f1, f2⟩ := (vbox_new hb1).facts
  go_wp2_with fail
  exact bodyPost_ret (v := vlV x) (by simp [results, Tryz.results145, go_sem, cell_set_self, z0, z1, z2, vlV]) rfl ⟨rfl, bel_3 (bel_tr (bel_one w _) hb1) (Nat.le_refl _) _ _ _⟩
set_option maxRecDepth 100000 in
theorem op7_any (a b : Int) (w : World) :
    Calls Tryz.prog 146 #[.int .i64 a, .int .i64 b] w fun e w' => e = .returned (vlV (flagV (decide (a < b)))) ∧ Below w.heap.size w w' := by
  by_cases c1 : a < b
  all_goals
    obtain ⟨t, ht⟩ : ∃ t, (decide (a < b)) = t := ⟨_, rfl⟩
    rw [ht]
    simp [c1] at ht
    have HN := Lib.hid (fun W => flag_any t W)
    generalize hx : flagV t = x at HN ⊢
    clear hx
    subst ht
    unfold vlV at *
    go_enter Tryz.func146, Tryz.ntmps146
    go_wp2_with fail
    refine (HN.out _).mono ?_
    rintro e w1 ⟨rfl, hb1⟩
    obtain ⟨a0, b0, c0, z0, z1, z2, f0, f1, f2⟩ := (vbox_new hb1).facts
    go_wp2_with fail
    exact bodyPost_ret (v := vlV x) (by simp [results, Tryz.results146, go_sem, cell_set_self, z0, z1, z2, vlV]) rfl ⟨rfl, bel_3 (bel_tr (bel_one w _) hb1) (Nat.le_refl _) _ _ _⟩
set_option maxRecDepth 100000 in
theorem op8_any (a b : Int) (w : World) :
    Calls Tryz.prog 148 #[.int .i64 a, .int .i64 b] w fun e w' => e = .returned (vlV (flagV (decide (a ≤ b)))) ∧ Below w.heap.size w w' := by
  by_cases c1 : a ≤ b
  all_goals
    obtain ⟨t, ht⟩ : ∃ t, (decide (a ≤ b)) = t := ⟨_, rfl⟩
    rw [ht]
    simp [c1] at ht
    have HN := Lib.hid (fun W => flag_any t W)
    generalize hx : flagV t = x at HN ⊢
    clear hx
    subst ht
    unfold vlV at *
    go_enter Tryz.func148, Tryz.ntmps148
    go_wp2_with fail
    refine (HN.out _).mono ?_
    rintro e w1 ⟨rfl, hb1⟩
    obtain ⟨a0, b0, c0, z0, z1, z2, f0, f1, f2⟩ := (vbox_new hb1).facts
    go_wp2_with fail
    exact bodyPost_ret (v := vlV x) (by simp [results, Tryz.results148, go_sem, cell_set_self, z0, z1, z2, vlV]) rfl ⟨rfl, bel_3 (bel_tr (bel_one w _) hb1) (Nat.le_refl _) _ _ _⟩
set_option maxRecDepth 100000 in
theorem op10_any (a b : Int) (w : World) :
    Calls Tryz.prog 149 #[.int .i64 a, .int .i64 b] w fun e w' => e = .returned (vlV (flagV ((decide (a = 1) && decide (b = 1))))) ∧ Below w.heap.size w w' := by
  by_cases c1 : a = 1 <;> by_cases c2 : b = 1
  all_goals
    obtain ⟨t, ht⟩ : ∃ t, ((decide (a = 1) && decide (b = 1))) = t := ⟨_, rfl⟩
    rw [ht]
    simp [c1, c2] at ht
    have HN := Lib.hid (fun W => flag_any t W)
    generalize hx : flagV t = x at HN ⊢
    clear hx
    subst ht
    unfold vlV at *
    obtain ⟨da, hda⟩ : ∃ d, (a == 1) = d := ⟨_, rfl⟩
    have hda' : da = decide (a = 1) := by rw [← hda, Bool.eq_iff_iff]; simp
    simp only [c1, decide_true, decide_false] at hda'
    subst hda'
    obtain ⟨db, hdb⟩ : ∃ d, (b == 1) = d := ⟨_, rfl⟩
    have hdb' : db = decide (b = 1) := by rw [← hdb, Bool.eq_iff_iff]; simp
    simp only [c2, decide_true, decide_false] at hdb'
    subst hdb'
    go_enter Tryz.func149, Tryz.ntmps149
    go_wp2_with fail
    refine (HN.out _).mono ?_
    rintro e w1 ⟨rfl, hb1⟩
    obtain ⟨a0, b0, c0, z0, z1, z2, f0, f1, f2⟩ := (vbox_new hb1).facts
    go_wp2_with fail
    exact bodyPost_ret (v := vlV x) (by simp [results, Tryz.results149, go_sem, cell_set_self, z0, z1, z2, vlV]) rfl ⟨rfl, bel_3 (bel_tr (bel_one w _) hb1) (Nat.le_refl _) _ _ _⟩
set_option maxRecDepth 100000 in
theorem op11_any (a b : Int) (w : World) :
    Calls Tryz.prog 150 #[.int .i64 a, .int .i64 b] w fun e w' => e = .returned (vlV (flagV ((decide (a = 1) || decide (b = 1))))) ∧ Below w.heap.size w w' := by
  by_cases c1 : a = 1 <;> by_cases c2 : b = 1
  all_goals
    obtain ⟨t, ht⟩ : ∃ t, ((decide (a = 1) || decide (b = 1))) = t := ⟨_, rfl⟩
    rw [ht]
    simp [c1, c2] at ht
    have HN := Lib.hid (fun W => flag_any t W)
    generalize hx : flagV t = x at HN ⊢
    clear hx
    subst ht
    unfold vlV at *
    obtain ⟨da, hda⟩ : ∃ d, (a == 1) = d := ⟨_, rfl⟩
    have hda' : da = decide (a = 1) := by rw [← hda, Bool.eq_iff_iff]; simp
    simp only [c1, decide_true, decide_false] at hda'
    subst hda'
    obtain ⟨db, hdb⟩ : ∃ d, (b == 1) = d := ⟨_, rfl⟩
    have hdb' : db = decide (b = 1) := by rw [← hdb, Bool.eq_iff_iff]; simp
    simp only [c2, decide_true, decide_false] at hdb'
    subst hdb'
    go_enter Tryz.func150, Tryz.ntmps150
    go_wp2_with fail
    refine (HN.out _).mono ?_
    rintro e w1 ⟨rfl, hb1⟩
    obtain ⟨a0, b0, c0, z0, z1, z2, f0, f1, f2⟩ := (vbox_new hb1).facts
    go_wp2_with fail
    exact bodyPost_ret (v := vlV x) (by simp [results, Tryz.results150, go_sem, cell_set_self, z0, z1, z2, vlV]) rfl ⟨rfl, bel_3 (bel_tr (bel_one w _) hb1) (Nat.le_refl _) _ _ _⟩
set_option maxRecDepth 100000 in
theorem op12_any (a b : Int) (w : World) :
    Calls Tryz.prog 151 #[.int .i64 a, .int .i64 b] w fun e w' => e = .returned (vlV (flagV (!decide (a = 1)))) ∧ Below w.heap.size w w' := by
  by_cases c1 : a = 1
  all_goals
    obtain ⟨t, ht⟩ : ∃ t, (!decide (a = 1)) = t := ⟨_, rfl⟩
    rw [ht]
    simp [c1] at ht
    have HN := Lib.hid (fun W => flag_any t W)
    generalize hx : flagV t = x at HN ⊢
    clear hx
    subst ht
    unfold vlV at *
    obtain ⟨da, hda⟩ : ∃ d, (a == 1) = d := ⟨_, rfl⟩
    have hda' : da = decide (a = 1) := by rw [← hda, Bool.eq_iff_iff]; simp
    simp only [c1, decide_true, decide_false] at hda'
    subst hda'
    have hna : (a != 1) = !(a == 1) := rfl
    rw [hda] at hna
    simp only [Bool.not_true, Bool.not_false] at hna
    go_enter Tryz.func151, Tryz.ntmps151
    go_wp2_with fail
    refine (HN.out _).mono ?_
    rintro e w1 ⟨rfl, hb1⟩
    obtain ⟨a0, b0, c0, z0, z1, z2, f0, f1, f2⟩ := (vbox_new hb1).facts
    go_wp2_with fail
    exact bodyPost_ret (v := vlV x) (by simp [results, Tryz.results151, go_sem, cell_set_self, z0, z1, z2, vlV]) rfl ⟨rfl, bel_3 (bel_tr (bel_one w _) hb1) (Nat.le_refl _) _ _ _⟩
set_option maxRecDepth 100000 in
set_option maxHeartbeats 2000000 in
theorem operations_any (w : World) : Calls Tryz.prog 113 #[] w fun e w' => ∃ m, e = .returned (.map (some m)) ∧ OpsAt w' m ∧ Below w.heap.size w w' := by
  have hmm := @run_makeMap_plain Tryz.prog
  have hst : ∀ (W : World) (a : Addr), (store a (.func (.func 143) #[] #[])).run Tryz.prog W = stored Tryz.prog W a (.func (.func 143) #[] #[]) .plain := fun W a => run_store Tryz.prog W a _ .plain rfl
  go_enter Tryz.func113, Tryz.ntmps113
  go_wp2_with (first
    | (refine wpList_insert_int _ rfl _ _ _ rfl (w.heap.size + 1) 5 _ #[] 0 rfl rfl rfl (heap_new' _ _ _ (by simp)) rfl ?_
       intro w1 hb1 hg1
       have hK := grown_below hg1 (B := w.heap.size + 1) (by simp) (fun g hg => by injection hg with hg; omega)
       have hsz : w.heap.size + 1 < w1.heap.size := (Array.getElem?_eq_some_iff.1 hb1).1)
    | (refine wpList_insert_int _ rfl _ _ _ rfl (w.heap.size + 1) _ _ _ _ rfl rfl rfl hb1 rfl ?_
       clear hb1
       intro w2 hb1 hg2
       have hK2 := hK.trans (grown_below hg2 (B := w.heap.size + 1) (by omega) (fun g hg => by injection hg with hg; omega))
       clear hK
       have hK := hK2
       clear hK2 hg2 hsz
       have hsz : w.heap.size + 1 < w2.heap.size := (Array.getElem?_eq_some_iff.1 hb1).1))
  go_ret
  refine ⟨w.heap.size + 1, rfl, ⟨w.heap.size, hb1, ?_⟩, ?_⟩
  · refine (World.cell?_of_block (hK.block w.heap.size (by omega))).trans ?_
    simp
  · refine (Below.trans ?_ (hK.mono (by omega)))
    exact (by repeat (first | exact Below.refl _ _ | assumption | refine Below.drew ?_ | refine bel_al ?_ _ | refine bel_set ?_ (by omega) _ | refine bel_tr ?_ (by assumption)))
end Go.Proofs.YtclpglgigpjfoaaGreatDoor
