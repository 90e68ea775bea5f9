/- The map of identities that stream.Check fills: what it reads as, the look-up and the store at the operation. -/
import Derived.Test.YtclpglgigpjfoaaDoorMev
import Derived.Test.YtclpglgigpjfoaaDoorKown
import Derived.Maps.OwnSet
import Derived.DeepKeys4
import Derived.MapViews
namespace Go.Proofs.YtclpglgigpjfoaaDoor
open Go.RowKit

theorem id_laid : laidOutB Tryd.prog = true := by kernel_rfl
theorem id_wide : (match Tryd.prog.underlying 103 with | some (.array _ _) | some (.struct _) => true | _ => false) = true := by kernel_rfl
theorem id_row : (103 : TypeId) < Tryd.prog.types.size := of_decide_eq_true (by kernel_rfl)
theorem id_two : Tryd.prog.keyTypeAt 2 103 = true := by kernel_rfl
set_option maxRecDepth 100000 in
theorem id_law : Maps.Keyed Tryd.prog 103 := Maps.Keyed.of_law (deep_law_laid id_laid (m := 2) (by omega) id_row id_two id_wide)
theorem id_deep : Tryd.prog.keyTypeAt (Tryd.prog.types.size + 1) 103 = true := by kernel_rfl
theorem id_cells : Tryd.prog.cellsOf 103 = 2 := by kernel_rfl
theorem id_cint : Tryd.prog.cellsOf 3 = 1 := by kernel_rfl
def idV (s q : Int) : Value := .agg #[.int .i64 s, .int .i64 q]
set_option maxRecDepth 100000 in
theorem id_key (w : World) {s q : Int} (h1 : (Lit.int .i64 s).wf = true) (h2 : (Lit.int .i64 q).wf = true) : ∃ l, keyOf Tryd.prog 103 (idV s q) = some l :=
  ⟨_, (keyOf_asKey (H := Unit) (enc := fun _ => ()) (w := w) (base := 0) (sp := fun _ => true) (held := true) (d := .agg [.lit (.int .i64 s), .lit (.int .i64 q)]) (ps := []) id_deep id_wide (by have hc := id_cells; simp [idV, Value.formed, Tryd.underlying103]; exact hc.symm)
    ⟨3, by have hc := id_cells; simp [idV, DataW.trod, Value.cells, Tryd.underlying103, Tryd.underlying3, id_cint, h1, h2]; exact hc.symm⟩).1⟩
def seenR : Value → Option (DataW Unit × List MemPlace)
  | .bool true => some (.lit (.bool true), [])
  | _ => none
theorem seenR_is {v : Value} {y : DataW Unit × List MemPlace} (h : seenR v = some y) : v = .bool true := by
  unfold seenR at h
  split at h
  · rfl
  · cases h
/-- block b is a map of at most n entries, with the identities of these events -/
def Seen (w : World) (b n : Nat) (pre : List Evt) : Prop := ∃ D, w.ownsMap Tryd.prog 103 seenR b n D ∧
  ∀ (x : Evt) l, keyOf Tryd.prog 103 (idV x.src x.sq) = some l → Maps.has D l = pre.any (twinE x)
theorem Seen.kept {w w' : World} {b n : Nat} {pre : List Evt} (h : Seen w b n pre) {row : Option Nat} (hg : w.grownBy w' row) (hne : some b ≠ row) : Seen w' b n pre := by
  obtain ⟨D, h1, h2⟩ := h
  exact ⟨D, h1.kept hg hne, h2⟩
theorem Seen.lt {w : World} {b n : Nat} {pre : List Evt} (h : Seen w b n pre) : b < w.heap.size := by
  obtain ⟨D, h1, _⟩ := h
  exact h1.lt
theorem Seen.below {w w' : World} {b n : Nat} {pre : List Evt} (h : Seen w b n pre) (hb : Below w.heap.size w w') : Seen w' b n pre :=
  h.kept (below_grown hb none) (by simp)
theorem seen_made (w : World) : Seen (w.alloc (.map #[] 0)) w.heap.size 0 [] :=
  ⟨_, World.ownsMap_made w _ _ _, fun _ _ _ => rfl⟩
theorem placed_wf {x : Evt} (h : placedE x = true) : (Lit.int .i64 x.src).wf = true ∧ (Lit.int .i64 x.sq).wf = true := by
  unfold placedE at h
  rw [decide_eq_true_eq] at h
  exact ⟨WalkArith.wf_i64 (by omega), WalkArith.wf_i64 (by omega)⟩
theorem zeroB (w : World) : (zeroValue 4).run Tryd.prog w = .ok (.bool false) w := by kernel_rfl
theorem Seen.look {w : World} {b n : Nat} {pre : List Evt} (h : Seen w b n pre) {x : Evt} (hx : placedE x = true) :
    (Instr.lookup 99 (.map (some b)) (idV x.src x.sq) false).run Tryd.prog w = .ok (.bool (pre.any (twinE x))) w := by
  obtain ⟨D, ⟨es, clock, hb, F, _, rfl⟩, h2⟩ := h
  obtain ⟨l, hl⟩ := id_key w (placed_wf hx).1 (placed_wf hx).2
  have h3 := h2 x l hl
  rcases Maps.fit_look false id_law Tryd.underlying99 (zeroB w) hb F hl with ⟨hrun, _, hat⟩ | ⟨e0, y, _, _, hrun, hRv, hat, _⟩
  · rw [Maps.has_false_of_atKey hat] at h3
    rw [← h3]
    exact hrun
  · rw [Maps.has_true_of_atKey hat] at h3
    rw [← h3]
    have := seenR_is hRv
    rw [this] at hrun
    exact hrun
theorem Seen.store {w : World} {b n : Nat} {pre : List Evt} (h : Seen w b n pre) {x : Evt} (hx : placedE x = true) (hn : n < maxLen) :
    ∃ w', (Instr.mapUpdate 99 (.map (some b)) (idV x.src x.sq) (.bool true)).run Tryd.prog w = .ok () w' ∧ Seen w' b (n + 1) (pre ++ [x]) ∧ w.grownBy w' (some b) := by
  obtain ⟨D, h1, h2⟩ := h
  obtain ⟨l, hl⟩ := id_key w (placed_wf hx).1 (placed_wf hx).2
  obtain ⟨w', hrun, r1, r2⟩ := h1.update id_law Tryd.underlying99 hn hl (val := .bool true) (d := .lit (.bool true)) (ps := []) rfl
  refine ⟨w', hrun, ⟨_, r1, fun y m hm => ?_⟩, r2⟩
  have h3 := h2 y m hm
  rw [List.any_append, List.any_cons, List.any_nil, Bool.or_false, ← h3]
  by_cases e : m = l
  · subst e
    have := id_law.inj hm hl
    unfold idV at this
    simp only [Value.agg.injEq, Array.mk.injEq, List.cons.injEq, Value.int.injEq, true_and, and_true] at this
    rw [Maps.has_put_same h1.isMap (id_law.key hm)]
    simp [twinE, this.1, this.2]
  · rw [Maps.has_put_other e]
    have ht : twinE y x = false := by
      unfold twinE
      rw [decide_eq_false_iff_not]
      rintro ⟨e1, e2⟩
      rw [e1, e2] at hm
      exact e (Option.some.inj (hm.symm.trans hl))
    rw [ht, Bool.or_false]
theorem wpList_lookup_seen (w : World) {ops : Array Oper} {rest : List Oper} {o : Oper} {a : Act} {Q : Exit → Act → World → Prop}
    (hg : o.guard = none) (m x : Operand) (hop : o.op = Op.lookup 99 m x false) (b n : Nat) (pre : List Evt) (y : Evt)
    (hm : a.eval m = .map (some b)) (hown : Seen w b n pre) (hx : a.eval x = idV y.src y.sq) (hy : placedE y = true)
    (hK : wpList Tryd.prog ops Q rest (a.put o.dst (.bool (pre.any (twinE y)))) w) : wpList Tryd.prog ops Q (o :: rest) a w := by
  refine wpList_plain hg fun K' hK' => ?_
  have hrun := hown.look hy
  unfold Oper.wp
  simp [execOp, hop, hm, hx, hrun, Result.andThen]
  exact hK' _ _ hK
theorem wpList_store_seen (w : World) {ops : Array Oper} {rest : List Oper} {o : Oper} {a : Act} {Q : Exit → Act → World → Prop}
    (hg : o.guard = none) (m x v : Operand) (hop : o.op = Op.mapUpdate 99 m x v) (b n : Nat) (pre : List Evt) (y : Evt)
    (hm : a.eval m = .map (some b)) (hown : Seen w b n pre) (hx : a.eval x = idV y.src y.sq) (hv : a.eval v = .bool true) (hy : placedE y = true) (hn : n < maxLen)
    (hK : ∀ w', Seen w' b (n + 1) (pre ++ [y]) → w.grownBy w' (some b) → wpList Tryd.prog ops Q rest (a.put o.dst undef) w') : wpList Tryd.prog ops Q (o :: rest) a w := by
  refine wpList_plain hg fun K' hK' => ?_
  obtain ⟨w', hrun, r1, r2⟩ := hown.store hy hn
  unfold Oper.wp
  simp [execOp, hop, hm, hx, hv, hrun, Result.andThen]
  exact hK' _ _ (hK w' r1 r2)
end Go.Proofs.YtclpglgigpjfoaaDoor
