/- Reading the arguments of the laws of matches out of the memory: values, events, variables; and the wrap that keeps the world's shape beside the listed table. -/
import Derived.Test.YtclpglgigpjfoaaDoorKopen
import Derived.Test.YtclpglgigpjfoaaDoorMdata
import Derived.Test.YtclpglgigpjfoaaDoorMfmtp
import Derived.HandedShaped
namespace Go.Proofs.YtclpglgigpjfoaaDoor
open Go.ChangeShapes Go.WideShapes Go.ChangeAt Go.RowKit Go.Deep
theorem list5 {α : Type} {l : List α} (h : l.length = 5) : ∃ a b c d e, l = [a, b, c, d, e] := by
  match l, h with
  | [a, b, c, d, e], _ => exact ⟨a, b, c, d, e, rfl⟩
theorem cells_string : Tryd.prog.cellsOf 9 = 1 := by kernel_rfl
theorem cells_vls : Tryd.prog.cellsOf 71 = 1 := by kernel_rfl
theorem cells_vl : Tryd.prog.cellsOf 79 = 3 := by kernel_rfl
theorem cells_evt : Tryd.prog.cellsOf 73 = 5 := by kernel_rfl
theorem cells_nv : Tryd.prog.cellsOf 30 = 2 := by kernel_rfl
section
variable {H : Type} {enc : TypeId × Value → H} {w : World} {base : Nat} {spare : Nat → Bool} {held : Bool}
theorem read_vl (n b o : Nat) (cs : List Value) (y : DataW H × List MemPlace) (hl : cs.length = 3) (hc : ∀ (j : Nat) (u : Value), cs[j]? = some u → w.cell? ⟨b, o + j, none⟩ = some u)
    (h : DataW.trod enc Tryd.prog w base spare held n 79 cs = some y) : ∃ x, VlAt w b o x := by
  obtain ⟨c0, c1, c2, rfl⟩ := list3 hl
  obtain ⟨xs, m, _, _, _, hxl, hf⟩ := DataW.trod_struct Tryd.underlying79 h
  obtain ⟨x0, x1, x2, rfl⟩ := list3 (by simpa using hxl)
  have f0 := hf 0 _ rfl
  have f1 := hf 1 _ rfl
  have f2 := hf 2 _ rfl
  simp [cells_int, cells_string] at f0 f1 f2
  obtain ⟨k0, e0, _⟩ := DataW.trod_int Tryd.underlying3 f0
  obtain ⟨k1, e1, _⟩ := DataW.trod_int Tryd.underlying3 f1
  obtain ⟨k2, e2, _⟩ := DataW.trod_string Tryd.underlying9 f2
  simp only [List.cons.injEq, and_true] at e0 e1 e2
  subst e0 e1 e2
  exact ⟨⟨k0, k1, k2⟩, hc 0 _ rfl, hc 1 _ rfl, hc 2 _ rfl⟩
theorem read_vls {fuel : Nat} {v : Value} {y : DataW H × List MemPlace} (h : DataW.trod enc Tryd.prog w base spare held fuel 71 [v] = some y) : ∃ l, IsVls w v l :=
  open_sl Tryd.underlying71 cells_vl (by decide) (fun n b o cs y h1 h2 h3 => read_vl n b o cs y h1 h2 h3) h
theorem read_evt (n b o : Nat) (cs : List Value) (y : DataW H × List MemPlace) (hl : cs.length = 5) (hc : ∀ (j : Nat) (u : Value), cs[j]? = some u → w.cell? ⟨b, o + j, none⟩ = some u)
    (h : DataW.trod enc Tryd.prog w base spare held n 73 cs = some y) : ∃ x, EvtAt w b o x := by
  obtain ⟨c0, c1, c2, c3, c4, rfl⟩ := list5 hl
  obtain ⟨xs, m, _, _, _, hxl, hf⟩ := DataW.trod_struct Tryd.underlying73 h
  obtain ⟨x0, x1, x2, x3, x4, rfl⟩ := list5 (by simpa using hxl)
  have f0 := hf 0 _ rfl
  have f1 := hf 1 _ rfl
  have f2 := hf 2 _ rfl
  have f3 := hf 3 _ rfl
  have f4 := hf 4 _ rfl
  simp [cells_int, cells_vls] at f0 f1 f2 f3 f4
  obtain ⟨k0, e0, _⟩ := DataW.trod_int Tryd.underlying3 f0
  obtain ⟨k1, e1, _⟩ := DataW.trod_int Tryd.underlying3 f1
  obtain ⟨k2, e2, _⟩ := DataW.trod_int Tryd.underlying3 f2
  obtain ⟨k3, e3, _⟩ := DataW.trod_int Tryd.underlying3 f3
  obtain ⟨l, hvl⟩ := read_vls f4
  simp only [List.cons.injEq, and_true] at e0 e1 e2 e3
  subst e0 e1 e2 e3
  exact ⟨⟨k0, k1, k2, k3, l⟩, c4, hvl, hc 0 _ rfl, hc 1 _ rfl, hc 2 _ rfl, hc 3 _ rfl, hc 4 _ rfl⟩
theorem read_evts {fuel : Nat} {v : Value} {y : DataW H × List MemPlace} (h : DataW.trod enc Tryd.prog w base spare held fuel 52 [v] = some y) : ∃ l, IsEvts w v l :=
  open_sl Tryd.underlying52 cells_evt (by decide) (fun n b o cs y h1 h2 h3 => read_evt n b o cs y h1 h2 h3) h
set_option maxRecDepth 100000 in
theorem read_nv (n b o : Nat) (cs : List Value) (y : DataW H × List MemPlace) (hl : cs.length = 2) (hc : ∀ (j : Nat) (u : Value), cs[j]? = some u → w.cell? ⟨b, o + j, none⟩ = some u)
    (h : DataW.trod enc Tryd.prog w base spare held n 30 cs = some y) : ∃ x, NvAt w b o x := by
  obtain ⟨c0, c1, rfl⟩ := list2 hl
  obtain ⟨xs, m, _, _, _, hxl, hf⟩ := DataW.trod_struct Tryd.underlying30 h
  obtain ⟨x0, x1, rfl⟩ := list2 (by simpa using hxl)
  have f0 := hf 0 _ rfl
  have f1 := hf 1 _ rfl
  simp [cells_int, cells_string] at f0 f1
  obtain ⟨k0, e0, _⟩ := DataW.trod_string Tryd.underlying9 f0
  obtain ⟨k1, e1, _⟩ := DataW.trod_int Tryd.underlying3 f1
  simp only [List.cons.injEq, and_true] at e0 e1
  subst e0 e1
  exact ⟨⟨k0, k1⟩, hc 0 _ rfl, hc 1 _ rfl⟩
set_option maxRecDepth 100000 in
theorem read_nvs {fuel : Nat} {v : Value} {y : DataW H × List MemPlace} (h : DataW.trod enc Tryd.prog w base spare held fuel 28 [v] = some y) : ∃ l, IsNvs w v l :=
  open_sl Tryd.underlying28 cells_nv (by decide) (fun n b o cs y h1 h2 h3 => read_nv n b o cs y h1 h2 h3) h
set_option maxRecDepth 100000 in
theorem read_mat_by_value {r : Reach} {b0 : Nat} {v : Value} {d : DataW H} {p : List MemPlace} (ho : Value.okWide Tryd.prog w r b0 24 v) (h : DataW.Trod enc Tryd.prog w base spare held 24 v d p) : ∃ (u : Value) (l : List Bnd), v = matV u ∧ IsBnds w u l := by
  obtain ⟨cs, rfl, hs⟩ := okWide_struct Tryd.underlying24 ho
  obtain ⟨fuel, hf⟩ := h
  obtain ⟨l⟩ := cs
  rw [cells_mat] at hs
  obtain ⟨c, rfl⟩ := list1 (by simpa using hs)
  obtain ⟨l, hl⟩ := read_matc hf
  exact ⟨c, l, rfl, hl⟩
end
section
variable {H : Type} {enc : TypeId × Value → H}
/-- the plain wrap, with one more condition on the memory, and the world's shape handed on -/
theorem handed_shaped_and {a : Assume} {C : Checked} {os : Os} {f : FuncId} {fn : Func} {s : ChangeSpec} {conds : List PathCond} {apart fresh handsOn again : Bool} {X : World → Array Value → Prop}
    (hX : ∀ (w w' : World) (args : Array Value), w.heap = w'.heap → X w args → X w' args)
    (own : ownKnob C.prog.godebug = none) (started : os.Started) (noInit : C.prog.inits.idxOf? f = none) (hfn : C.prog.funcs[f]? = some fn)
    (witness : ∃ (w : World) (tape : Tape) (i : Input), w.os = os ∧ (w.forCall tape i).Shaped C.prog ∧ i.vars = [] ∧ Input.okWide C.prog (w.forCall tape i) .any w.heap.size f i ∧
      ((s.pre enc C.prog fn conds apart (w.forCall tape i).memory i.args ∧ X (w.forCall tape i).memory i.args) ∧ sizedMet enc C.prog fn (OpenSpec.ofChange s) apart (w.forCall tape i).memory i.args) ∧ a.holds C.prog (lone (Frame.enter C.prog f i.args .normal) [] (w.forCall tape i)))
    (contract : ∀ (W : World) (base : Nat) (args : Array Value) (ds gs : List (DataW H)) (before : List MemPlace),
      (∀ (j : Nat) t v, fn.params[j]? = some t → args[j]? = some v → Value.okWide C.prog W .any base t v) →
      DataW.Whole enc C.prog fn.params.toList s.vars apart W args.toList ds gs before →
      conds.all (PathCond.test C.prog ⟨fn.params.toList, ds, s.plain.varTypes C.prog, gs⟩) = true →
      W.ShapedOpen C.prog → X W args →
      a.holds C.prog (lone (Frame.enter C.prog f args .normal) [] W) →
      Calls C.prog f args W fun e W' => ∃ v, e = .returned v ∧ s.post enc C.prog fn apart fresh handsOn again W args v W') :
    ReturnsInHanded a C os f .any (fun w args => (s.pre enc C.prog fn conds apart w args ∧ X w args) ∧ sizedMet enc C.prog fn (OpenSpec.ofChange s) apart w args) (s.post enc C.prog fn apart fresh handsOn again) := by
  refine returnsInHanded_of_calls own started noInit witness ?_
  intro w tape i _ hsh _ hok hpre hholds
  obtain ⟨_, _, _, fn', hfn', _, _, _, _, hval⟩ := hok
  have e : fn' = fn := Option.some.inj (hfn'.symm.trans hfn)
  subst e
  obtain ⟨⟨⟨ds, gs, before, hw, hc⟩, hx⟩, hz⟩ := hpre
  have hw' := DataW.Whole.of_heap (w' := w.forCall tape i) (by rfl) hw
  refine (contract (w.forCall tape i) w.heap.size i.args ds gs before hval hw' hc hsh (hX _ _ _ (by rfl) hx) hholds).mono fun e W' ⟨v, he, hp⟩ => ?_
  subst he
  exact ChangeSpec.post_blind hp
end
end Go.Proofs.YtclpglgigpjfoaaDoor
