/- match.Format: what it returns; how a row in a box is longer by one. -/
import Derived.Test.YtclpglgigpjfoaaGreatDoorQMparts
import Derived.Test.YtclpglgigpjfoaaGreatDoorQKown
import Derived.Test.YtclpglgigpjfoaaGreatDoorQLdata
import Derived.Lib.Join
import Derived.HandedShaped
namespace Go.Proofs.YtclpglgigpjfoaaGreatDoor
open Go.RowKit Go.Lib

def firstE : List (ByteArray × Int) → Int
  | [] => 0
  | x :: l => if x.2 ≠ 0 then x.2 else firstE l
theorem firstE_stop : ∀ {p : List (ByteArray × Int)} {L : List (ByteArray × Int)} {t : ByteArray} {e : Int}, p ++ [(t, e)] <+: L → (∀ x ∈ p, x.2 = 0) → e ≠ 0 → firstE L = e
  | [], L, t, e, ⟨r, hr⟩, _, he => by subst hr; simp [firstE, he]
  | x :: p, L, t, e, ⟨r, hr⟩, hp, he => by
    cases L with
    | nil => simp at hr
    | cons y L =>
      simp only [List.cons_append, List.cons.injEq] at hr
      obtain ⟨rfl, hr⟩ := hr
      have h0 := hp x (List.mem_cons_self ..)
      unfold firstE
      rw [if_neg (by simp [h0])]
      exact firstE_stop ⟨r, hr⟩ (fun z hz => hp z (List.mem_cons_of_mem _ hz)) he
theorem firstE_none : ∀ {L : List (ByteArray × Int)}, (∀ x ∈ L, x.2 = 0) → firstE L = 0
  | [], _ => rfl
  | x :: L, h => by
    unfold firstE
    rw [if_neg (by simp [h x (List.mem_cons_self ..)])]
    exact firstE_none (fun z hz => h z (List.mem_cons_of_mem _ hz))
def joinB (l : List ByteArray) : ByteArray := ⟨(join (l.map (·.data.toList)) [32]).toArray⟩
def formatR (vs : List Nv) (bs : List Bnd) : ByteArray × Int :=
  if matErr bs ≠ 0 then (noText, matErr bs) else if firstE (bs.map (partE vs)) ≠ 0 then (noText, firstE (bs.map (partE vs))) else (joinB ((bs.map (partE vs)).map (·.1)), 0)
theorem formatR_bad {vs : List Nv} {bs : List Bnd} {e : Int} (h : matErr bs = e) (h0 : e ≠ 0) : formatR vs bs = (noText, e) := by unfold formatR; rw [h, if_pos h0]
theorem formatR_err {vs : List Nv} {bs : List Bnd} {e : Int} (h : matErr bs = 0) (h1 : firstE (bs.map (partE vs)) = e) (h0 : e ≠ 0) : formatR vs bs = (noText, e) := by unfold formatR; rw [h, if_neg (by simp), h1, if_pos h0]
theorem formatR_ok {vs : List Nv} {bs : List Bnd} (h : matErr bs = 0) (h1 : firstE (bs.map (partE vs)) = 0) : formatR vs bs = (joinB ((bs.map (partE vs)).map (·.1)), 0) := by unfold formatR; rw [h, if_neg (by simp), h1, if_neg (by simp)]
theorem join_len (sep : List UInt8) (m : Nat) : ∀ l : List (List UInt8), (∀ x ∈ l, x.length ≤ m) → (join l sep).length ≤ l.length * (m + sep.length)
  | [], _ => by simp [join_nil]
  | x :: l, h => by
    rw [join_cons]
    have h1 := h x (List.mem_cons_self ..)
    have h2 : ∀ l : List (List UInt8), (∀ x ∈ l, x.length ≤ m) → (joinTail sep l).length ≤ l.length * (m + sep.length) := by
      intro l
      induction l with
      | nil => intro _; simp [joinTail]
      | cons y l ih =>
        intro hl
        have e1 := ih (fun z hz => hl z (List.mem_cons_of_mem _ hz))
        have e2 := hl y (List.mem_cons_self ..)
        simp only [joinTail, List.map_cons, List.flatten_cons, List.length_append, List.length_cons] at e1 ⊢
        rw [Nat.succ_mul]
        omega
    have h3 := h2 l (fun z hz => h z (List.mem_cons_of_mem _ hz))
    simp only [List.length_append, List.length_cons]
    rw [Nat.succ_mul]
    omega
theorem partE_len {vs : List Nv} {b : Bnd} (hnm : ∀ v ∈ vs, v.name.data.toList.length ≤ 1048576) (hok : bndOk b = true) : (partE vs b).1.data.toList.length ≤ 1100000 := by
  have hpl : (0 ≤ b.t ∧ b.t ≤ 1099511627776) ∧ (0 ≤ b.s ∧ b.s ≤ 7) ∧ 0 ≤ b.n ∧ b.n ≤ 1099511627776 := by
    unfold bndOk plB inI at hok
    simp only [Bool.and_eq_true, decide_eq_true_eq] at hok
    omega
  unfold partE
  split
  · simp [noText]
  · split
    · simp [noText]
    · have hn : (nvOf vs b).name.size ≤ 1048576 := by
        unfold nvOf
        rw [List.getD_eq_getElem?_getD]
        cases hx : vs[b.v.toNat]? with
        | none => simp [zeroNv, noText, ByteArray.size]
        | some y => have := hnm y (List.mem_of_getElem? hx); simpa using this
      have q1 := itoaB_size b.t (by omega) (by omega)
      have q2 := itoaB_size b.s (by omega) (by omega)
      have q3 := itoaB_size b.n (by omega) (by omega)
      have hs : (textB (nvOf vs b).name b).size ≤ 1100000 := by
        unfold textB
        simp only [ByteArray.size_append]
        have e1 : atSign.size = 1 := rfl
        have e2 : slash.size = 1 := rfl
        omega
      simpa using hs

theorem grownTrans {wf X Y : World} {B : Nat} {row : Option Nat} (h : wf.grownBy X (some B)) (k : X.grownBy Y row) (hr : ∀ r, row = some r → r = B ∨ wf.heap.size ≤ r) : wf.grownBy Y (some B) := by
  refine ⟨k.os.trans h.os, k.tape.trans h.tape, k.output.trans h.output, Nat.le_trans h.size k.size, fun j hj hne => ?_⟩
  refine (k.block j (Nat.lt_of_lt_of_le hj h.size) fun e => ?_).trans (h.block j hj hne)
  rcases hr j e.symm with rfl | h1
  · exact hne rfl
  · omega
theorem grown_bel {w wf X : World} {B : Nat} (hb : Below w.heap.size w wf) (h : wf.grownBy X (some B)) (hB : w.heap.size ≤ B) : Below w.heap.size w X :=
  hb.grown h hb.size (fun k e => by cases e; exact hB)
theorem own_lt {W : World} {base e size : Nat} {v : Value} {k : Nat} {xs : List Value} (h : W.ownsRow base e size v k xs) {g : Nat} (hg : v.ownBlock = some g) : base ≤ g ∧ ∃ cur, W.heap[g]? = some (.cells cur e (0, 0)) := by
  rcases h.2 with ⟨rfl, _⟩ | ⟨g', cap, cur, rfl, h1, h2, _⟩
  · simp [Value.ownBlock] at hg
  · have : g' = g := by simpa [Value.ownBlock] using hg
    subst this
    exact ⟨h1, cur, h2⟩
/-- what the rounds of Format keep: the row in the box -/
def Out (wf : World) (B : Nat) (t e : TypeId) (l : List ByteArray) (W : World) : Prop :=
  wf.grownBy W (some B) ∧ ∃ v, Boxed W B t v ∧ W.ownsRow wf.heap.size e 1 v l.length (l.map Value.string)
theorem Out.own {wf : World} {B : Nat} {t e : TypeId} {l : List ByteArray} {X Y : World} {row : Option Nat} (hB : B < wf.heap.size) (h : Out wf B t e l X) (hg : X.grownBy Y row)
    (hr : ∀ r, row = some r → wf.heap.size ≤ r ∧ ∃ o : Obj, X.heap[r]? = some o ∧ o.isCells = false) : Out wf B t e l Y := by
  obtain ⟨h1, v, h2, h3⟩ := h
  refine ⟨grownTrans h1 hg (fun r e => .inr (hr r e).1), v, h2.kept hg (fun e => ?_), h3.kept hg ?_⟩
  · have := (hr B e.symm).1; omega
  · cases hv : v.ownBlock with
    | none =>
      rcases h3.2 with ⟨rfl, _⟩ | ⟨g, cap, cur, rfl, _⟩
      · exact .inl rfl
      · simp [Value.ownBlock] at hv
    | some g =>
      refine .inr fun e => ?_
      obtain ⟨_, cur, hc⟩ := own_lt h3 hv
      obtain ⟨_, o, ho, hc'⟩ := hr g e.symm
      rw [hc] at ho; cases ho; cases hc'
theorem out_app {wf W w1 : World} {B : Nat} {t e : TypeId} {l : List ByteArray} {s : ByteArray} {v v' : Value} {tmp : Obj} (hB : B < wf.heap.size) (hgW : wf.grownBy W (some B)) (hv : Boxed W B t v) (hrow : W.ownsRow wf.heap.size e 1 v l.length (l.map Value.string))
    (hown' : w1.ownsRow wf.heap.size e 1 v' (l.length + 1) (l.map Value.string ++ [.string s])) (hgrow : (W.alloc tmp).grownBy w1 v.ownBlock) :
    Boxed w1 B t v ∧ Out wf B t e (l ++ [s]) (w1.setCell ⟨B, 0, none⟩ v') ∧ KeepsOthers W (w1.setCell ⟨B, 0, none⟩ v') ∧ (∀ j, j < wf.heap.size → j ≠ B → (w1.setCell ⟨B, 0, none⟩ v').heap[j]? = W.heap[j]?) := by
  have hne : some B ≠ v.ownBlock := fun e => by have := (own_lt hrow e.symm).1; omega
  have hne' : some B ≠ v'.ownBlock := fun e => by have := (own_lt hown' e.symm).1; omega
  have hv1 : Boxed w1 B t v := (hv.alloc tmp).kept hgrow hne
  have hg1 : wf.grownBy (w1.setCell ⟨B, 0, none⟩ v') (some B) :=
    grownTrans (grownTrans (grownTrans hgW (World.grownBy_alloc W tmp none) (fun r e => by cases e)) hgrow (fun r e => .inr (own_lt hrow e).1)) (grownBy_setCell' w1 B v') (fun r e => by cases e; exact .inl rfl)
  refine ⟨hv1, ⟨hg1, v', hv1.set v', ?_⟩, ?_, fun j hj hjB => ?_⟩
  · have := hown'.kept (grownBy_setCell' w1 B v') (.inr hne'.symm)
    simpa using this
  · refine ((KeepsOthers.alloc W tmp).trans (KeepsOthers.of_grownBy hgrow fun j o ej hj => ?_)).trans (KeepsOthers.setCell _ _ _)
    obtain ⟨_, cur, hc⟩ := own_lt (hrow.alloc tmp) ej
    rw [hc] at hj; cases hj; rfl
  · exact (hg1.block j hj (fun e => by cases e; exact hjB rfl)).trans (hgW.block j hj (fun e => by cases e; exact hjB rfl)).symm
end Go.Proofs.YtclpglgigpjfoaaGreatDoor
namespace Go.Proofs.YtclpglgigpjfoaaGreatDoor
open Go.ChangeShapes Go.WideShapes Go.ChangeAt Go.RowKit Go.Deep
theorem list5 {α : Type} {l : List α} (h : l.length = 5) : ∃ a b c d e, l = [a, b, c, d, e] := by
  match l, h with
  | [a, b, c, d, e], _ => exact ⟨a, b, c, d, e, rfl⟩
theorem cells_string : Tryz.prog.cellsOf 9 = 1 := by kernel_rfl
theorem cells_vls : Tryz.prog.cellsOf 69 = 1 := by kernel_rfl
theorem cells_vl : Tryz.prog.cellsOf 88 = 3 := by kernel_rfl
theorem cells_evt : Tryz.prog.cellsOf 71 = 5 := by kernel_rfl
theorem cells_nv : Tryz.prog.cellsOf 56 = 2 := by kernel_rfl
section
variable {H : Type} {enc : TypeId × Value → H} {w : World} {base : Nat} {spare : Nat → Bool} {held : Bool}
theorem read_vl (n b o : Nat) (cs : List Value) (y : DataW H × List MemPlace) (hl : cs.length = 3) (hc : ∀ (j : Nat) (u : Value), cs[j]? = some u → w.cell? ⟨b, o + j, none⟩ = some u)
    (h : DataW.trod enc Tryz.prog w base spare held n 88 cs = some y) : ∃ x, VlAt w b o x := by
  obtain ⟨c0, c1, c2, rfl⟩ := list3 hl
  obtain ⟨xs, m, _, _, _, hxl, hf⟩ := DataW.trod_struct Tryz.underlying88 h
  obtain ⟨x0, x1, x2, rfl⟩ := list3 (by simpa using hxl)
  have f0 := hf 0 _ rfl
  have f1 := hf 1 _ rfl
  have f2 := hf 2 _ rfl
  simp [cells_int, cells_string] at f0 f1 f2
  obtain ⟨k0, e0, _⟩ := DataW.trod_int Tryz.underlying3 f0
  obtain ⟨k1, e1, _⟩ := DataW.trod_int Tryz.underlying3 f1
  obtain ⟨k2, e2, _⟩ := DataW.trod_string Tryz.underlying9 f2
  simp only [List.cons.injEq, and_true] at e0 e1 e2
  subst e0 e1 e2
  exact ⟨⟨k0, k1, k2⟩, hc 0 _ rfl, hc 1 _ rfl, hc 2 _ rfl⟩
theorem read_vls {fuel : Nat} {v : Value} {y : DataW H × List MemPlace} (h : DataW.trod enc Tryz.prog w base spare held fuel 69 [v] = some y) : ∃ l, IsVls w v l :=
  open_sl Tryz.underlying69 cells_vl (by decide) (fun n b o cs y h1 h2 h3 => read_vl n b o cs y h1 h2 h3) h
theorem read_evt (n b o : Nat) (cs : List Value) (y : DataW H × List MemPlace) (hl : cs.length = 5) (hc : ∀ (j : Nat) (u : Value), cs[j]? = some u → w.cell? ⟨b, o + j, none⟩ = some u)
    (h : DataW.trod enc Tryz.prog w base spare held n 71 cs = some y) : ∃ x, EvtAt w b o x := by
  obtain ⟨c0, c1, c2, c3, c4, rfl⟩ := list5 hl
  obtain ⟨xs, m, _, _, _, hxl, hf⟩ := DataW.trod_struct Tryz.underlying71 h
  obtain ⟨x0, x1, x2, x3, x4, rfl⟩ := list5 (by simpa using hxl)
  have f0 := hf 0 _ rfl
  have f1 := hf 1 _ rfl
  have f2 := hf 2 _ rfl
  have f3 := hf 3 _ rfl
  have f4 := hf 4 _ rfl
  simp [cells_int, cells_vls] at f0 f1 f2 f3 f4
  obtain ⟨k0, e0, _⟩ := DataW.trod_int Tryz.underlying3 f0
  obtain ⟨k1, e1, _⟩ := DataW.trod_int Tryz.underlying3 f1
  obtain ⟨k2, e2, _⟩ := DataW.trod_int Tryz.underlying3 f2
  obtain ⟨k3, e3, _⟩ := DataW.trod_int Tryz.underlying3 f3
  obtain ⟨l, hvl⟩ := read_vls f4
  simp only [List.cons.injEq, and_true] at e0 e1 e2 e3
  subst e0 e1 e2 e3
  exact ⟨⟨k0, k1, k2, k3, l⟩, c4, hvl, hc 0 _ rfl, hc 1 _ rfl, hc 2 _ rfl, hc 3 _ rfl, hc 4 _ rfl⟩
theorem read_evts {fuel : Nat} {v : Value} {y : DataW H × List MemPlace} (h : DataW.trod enc Tryz.prog w base spare held fuel 42 [v] = some y) : ∃ l, IsEvts w v l :=
  open_sl Tryz.underlying42 cells_evt (by decide) (fun n b o cs y h1 h2 h3 => read_evt n b o cs y h1 h2 h3) h
set_option maxRecDepth 100000 in
theorem read_nv (n b o : Nat) (cs : List Value) (y : DataW H × List MemPlace) (hl : cs.length = 2) (hc : ∀ (j : Nat) (u : Value), cs[j]? = some u → w.cell? ⟨b, o + j, none⟩ = some u)
    (h : DataW.trod enc Tryz.prog w base spare held n 56 cs = some y) : ∃ x, NvAt w b o x := by
  obtain ⟨c0, c1, rfl⟩ := list2 hl
  obtain ⟨xs, m, _, _, _, hxl, hf⟩ := DataW.trod_struct Tryz.underlying56 h
  obtain ⟨x0, x1, rfl⟩ := list2 (by simpa using hxl)
  have f0 := hf 0 _ rfl
  have f1 := hf 1 _ rfl
  simp [cells_int, cells_string] at f0 f1
  obtain ⟨k0, e0, _⟩ := DataW.trod_string Tryz.underlying9 f0
  obtain ⟨k1, e1, _⟩ := DataW.trod_int Tryz.underlying3 f1
  simp only [List.cons.injEq, and_true] at e0 e1
  subst e0 e1
  exact ⟨⟨k0, k1⟩, hc 0 _ rfl, hc 1 _ rfl⟩
set_option maxRecDepth 100000 in
theorem read_nvs {fuel : Nat} {v : Value} {y : DataW H × List MemPlace} (h : DataW.trod enc Tryz.prog w base spare held fuel 53 [v] = some y) : ∃ l, IsNvs w v l :=
  open_sl Tryz.underlying53 cells_nv (by decide) (fun n b o cs y h1 h2 h3 => read_nv n b o cs y h1 h2 h3) h
set_option maxRecDepth 100000 in
theorem read_mat_by_value {r : Reach} {b0 : Nat} {v : Value} {d : DataW H} {p : List MemPlace} (ho : Value.okWide Tryz.prog w r b0 24 v) (h : DataW.Trod enc Tryz.prog w base spare held 24 v d p) : ∃ (u : Value) (l : List Bnd), v = matV u ∧ IsBnds w u l := by
  obtain ⟨cs, rfl, hs⟩ := okWide_struct Tryz.underlying24 ho
  obtain ⟨fuel, hf⟩ := h
  obtain ⟨l⟩ := cs
  rw [cells_mat] at hs
  obtain ⟨c, rfl⟩ := list1 (by simpa using hs)
  obtain ⟨l, hl⟩ := read_matc hf
  exact ⟨c, l, rfl, hl⟩
end
section
variable {H : Type} {enc : TypeId × Value → H}
/-- the plain wrap, with one more condition on the memory, and the world's shape handed on -/
theorem handed_shaped_and {a : Assume} {C : Checked} {os : Os} {f : FuncId} {fn : Func} {s : ChangeSpec} {conds : List PathCond} {apart fresh handsOn again : Bool} {X : World → Array Value → Prop}
    (hX : ∀ (w w' : World) (args : Array Value), w.heap = w'.heap → X w args → X w' args)
    (own : ownKnob C.prog.godebug = none) (started : os.Started) (noInit : C.prog.inits.idxOf? f = none) (hfn : C.prog.funcs[f]? = some fn)
    (witness : ∃ (w : World) (tape : Tape) (i : Input), w.os = os ∧ (w.forCall tape i).Shaped C.prog ∧ i.vars = [] ∧ Input.okWide C.prog (w.forCall tape i) .any w.heap.size f i ∧
      ((s.pre enc C.prog fn conds apart (w.forCall tape i).memory i.args ∧ X (w.forCall tape i).memory i.args) ∧ sizedMet enc C.prog fn (OpenSpec.ofChange s) apart (w.forCall tape i).memory i.args) ∧ a.holds C.prog (lone (Frame.enter C.prog f i.args .normal) [] (w.forCall tape i)))
    (contract : ∀ (W : World) (base : Nat) (args : Array Value) (ds gs : List (DataW H)) (before : List MemPlace),
      (∀ (j : Nat) t v, fn.params[j]? = some t → args[j]? = some v → Value.okWide C.prog W .any base t v) →
      DataW.Whole enc C.prog fn.params.toList s.vars apart W args.toList ds gs before →
      conds.all (PathCond.test C.prog ⟨fn.params.toList, ds, s.plain.varTypes C.prog, gs⟩) = true →
      W.ShapedOpen C.prog → X W args →
      a.holds C.prog (lone (Frame.enter C.prog f args .normal) [] W) →
      Calls C.prog f args W fun e W' => ∃ v, e = .returned v ∧ s.post enc C.prog fn apart fresh handsOn again W args v W') :
    ReturnsInHanded a C os f .any (fun w args => (s.pre enc C.prog fn conds apart w args ∧ X w args) ∧ sizedMet enc C.prog fn (OpenSpec.ofChange s) apart w args) (s.post enc C.prog fn apart fresh handsOn again) := by
  refine returnsInHanded_of_calls own started noInit witness ?_
  intro w tape i _ hsh _ hok hpre hholds
  obtain ⟨_, _, _, fn', hfn', _, _, _, _, hval⟩ := hok
  have e : fn' = fn := Option.some.inj (hfn'.symm.trans hfn)
  subst e
  obtain ⟨⟨⟨ds, gs, before, hw, hc⟩, hx⟩, hz⟩ := hpre
  have hw' := DataW.Whole.of_heap (w' := w.forCall tape i) (by rfl) hw
  refine (contract (w.forCall tape i) w.heap.size i.args ds gs before hval hw' hc hsh (hX _ _ _ (by rfl) hx) hholds).mono fun e W' ⟨v, he, hp⟩ => ?_
  subst he
  exact ChangeSpec.post_blind hp
end
end Go.Proofs.YtclpglgigpjfoaaGreatDoor
