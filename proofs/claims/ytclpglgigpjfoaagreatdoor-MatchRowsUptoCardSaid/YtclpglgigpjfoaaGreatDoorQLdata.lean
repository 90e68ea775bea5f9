/- How bindings, matches, entries and changes lie in memory: plain definitions and their frame laws. -/
import Derived.Test.YtclpglgigpjfoaaGreatDoorQBase
import Derived.Test.YtclpglgigpjfoaaGreatDoorQLplain
namespace Go.Proofs.YtclpglgigpjfoaaGreatDoor
open Go.RowKit

def BndAt (w : World) (b p : Nat) (x : Bnd) : Prop :=
  w.cell? ⟨b, p, none⟩ = some (.int .i64 x.v) ∧ w.cell? ⟨b, p + 1, none⟩ = some (.int .i64 x.t) ∧ w.cell? ⟨b, p + 2, none⟩ = some (.int .i64 x.s) ∧ w.cell? ⟨b, p + 3, none⟩ = some (.int .i64 x.n)
theorem bndAt_stays : Stays BndAt := fun _ _ _ _ _ hb ⟨h0, h1, h2, h3⟩ => ⟨cell_stays hb h0, cell_stays hb h1, cell_stays hb h2, cell_stays hb h3⟩
abbrev IsBnds (w : World) (v : Value) (l : List Bnd) : Prop := Sl BndAt 4 w v l
def MatAt (w : World) (b p : Nat) (x : List Bnd) : Prop := ∃ v, IsBnds w v x ∧ w.cell? ⟨b, p, none⟩ = some v
theorem matAt_stays : Stays MatAt := fun _ _ _ _ _ hb ⟨v, hv, h0⟩ => ⟨v, hv.stays bndAt_stays hb, cell_stays hb h0⟩
abbrev IsMats (w : World) (v : Value) (l : List (List Bnd)) : Prop := Sl MatAt 1 w v l
def EntAt (w : World) (b p : Nat) (x : Ety) : Prop := ∃ v, IsBnds w v x.bs ∧
  w.cell? ⟨b, p, none⟩ = some (.int .i64 x.q) ∧ w.cell? ⟨b, p + 1, none⟩ = some v ∧ w.cell? ⟨b, p + 2, none⟩ = some (.int .i64 x.n)
theorem entAt_stays : Stays EntAt := fun _ _ _ _ _ hb ⟨v, hv, h0, h1, h2⟩ => ⟨v, hv.stays bndAt_stays hb, cell_stays hb h0, cell_stays hb h1, cell_stays hb h2⟩
abbrev IsEnts (w : World) (v : Value) (l : List Ety) : Prop := Sl EntAt 3 w v l
def ChgAt (w : World) (b p : Nat) (x : Chg) : Prop := ∃ v, IsBnds w v x.bs ∧
  w.cell? ⟨b, p, none⟩ = some (.int .i64 x.sg) ∧ w.cell? ⟨b, p + 1, none⟩ = some (.int .i64 x.q) ∧ w.cell? ⟨b, p + 2, none⟩ = some v
theorem chgAt_stays : Stays ChgAt := fun _ _ _ _ _ hb ⟨v, hv, h0, h1, h2⟩ => ⟨v, hv.stays bndAt_stays hb, cell_stays hb h0, cell_stays hb h1, cell_stays hb h2⟩
abbrev IsChgs (w : World) (v : Value) (l : List Chg) : Prop := Sl ChgAt 3 w v l

/-- a binding, an entry, a change by value -/
def bndV (x : Bnd) : Value := .agg #[.int .i64 x.v, .int .i64 x.t, .int .i64 x.s, .int .i64 x.n]
def matV (v : Value) : Value := .agg #[v]
def entV (q : Int) (v : Value) (n : Int) : Value := .agg #[.int .i64 q, v, .int .i64 n]
def chgV (s q : Int) (v : Value) : Value := .agg #[.int .i64 s, .int .i64 q, v]

/-- memory has only grown, and the tape has only been drawn from -/
structure Gr (w w' : World) : Prop where
  below : Below w.heap.size w w'
  drawn : w.drawn ≤ w'.drawn
theorem Gr.refl (w : World) : Gr w w := ⟨Below.refl _ _, Nat.le_refl _⟩
theorem Gr.trans {a b c : World} (h : Gr a b) (k : Gr b c) : Gr a c := ⟨bel_tr h.below k.below, Nat.le_trans h.drawn k.drawn⟩
theorem Gr.alloc {a b : World} (h : Gr a b) (o : Obj) : Gr a (b.alloc o) := ⟨bel_al h.below o, h.drawn⟩
theorem Gr.drew {a b : World} (h : Gr a b) : Gr a b.drew := ⟨h.below.drew, Nat.le_trans h.drawn (Nat.le_succ _)⟩
theorem Gr.set {a b : World} (h : Gr a b) {g i : Nat} (hb : a.heap.size ≤ g) (v : Value) : Gr a (b.setCell ⟨g, i, none⟩ v) := ⟨bel_set h.below hb v, h.drawn⟩

theorem two_new {w w' : World} {cs ds : Array Value} {t u : TypeId} (hb : Below ((w.alloc (.cells cs t)).alloc (.cells ds u)).heap.size ((w.alloc (.cells cs t)).alloc (.cells ds u)) w') :
    (∀ i, w'.cell? ⟨w.heap.size, i, none⟩ = cs[i]?) ∧ (∀ i, w'.cell? ⟨w.heap.size + 1, i, none⟩ = ds[i]?) ∧ Below w.heap.size w w' := by
  have h := (new_cells (bel_tr (bel_one _ _) hb)).1
  have k := (new_cells hb).1
  simp only [World.size_alloc] at k
  exact ⟨h, k, bel_tr (bel_one _ _) (bel_tr (bel_one _ _) hb)⟩
theorem gr_bel {P : Program} {f : FuncId} {args : Array Value} {w : World} {a r : Int} (h : Calls P f args w fun e w' => e = .returned (.int .i64 a) ∧ Gr w w') (hr : a = r) : Calls P f args w fun e w' => e = .returned (.int .i64 r) ∧ Below w.heap.size w w' :=
  h.mono fun e w' ⟨h1, h2⟩ => ⟨h1.trans (by rw [hr]), h2.below⟩
theorem calls_gen {P : Program} {f : FuncId} {args : Array Value} {w : World} {Q : Ending → World → Prop} (h : ∀ W : World, W = w → Calls P f args W Q) : Calls P f args w Q := h w rfl
theorem Grows.to {F : World → Prop} (hG : Grows F) {w1 w2 : World} (hb : Below w1.heap.size w1 w2) (h : F w1) : F w2 := hG _ _ hb h
theorem bndAt_movable : Movable BndAt 4 := fun w b p x ⟨h0, h1, h2, h3⟩ =>
  ⟨[.int .i64 x.v, .int .i64 x.t, .int .i64 x.s, .int .i64 x.n], rfl, by simp [Value.oneCell'], fun j u hj => by
    match j, hj with
    | 0, hj => simp at hj; subst hj; exact h0
    | 1, hj => simp at hj; subst hj; exact h1
    | 2, hj => simp at hj; subst hj; exact h2
    | 3, hj => simp at hj; subst hj; exact h3
    | j + 4, hj => simp at hj, fun W b' p' _ hc => ⟨hc 0 _ rfl, hc 1 _ rfl, hc 2 _ rfl, hc 3 _ rfl⟩⟩
theorem matAt_movable : Movable MatAt 1 := fun w b p x ⟨v, hv, h0⟩ =>
  ⟨[v], rfl, by simp [sl_oneCell hv], fun j u hj => by
    match j, hj with
    | 0, hj => simp at hj; subst hj; exact h0
    | j + 1, hj => simp at hj, fun W b' p' hb hc => ⟨v, hv.stays bndAt_stays hb, hc 0 _ rfl⟩⟩
theorem entAt_movable : Movable EntAt 3 := fun w b p x ⟨v, hv, h0, h1, h2⟩ =>
  ⟨[.int .i64 x.q, v, .int .i64 x.n], rfl, by simp [Value.oneCell']; exact sl_oneCell hv, fun j u hj => by
    match j, hj with
    | 0, hj => simp at hj; subst hj; exact h0
    | 1, hj => simp at hj; subst hj; exact h1
    | 2, hj => simp at hj; subst hj; exact h2
    | j + 3, hj => simp at hj, fun W b' p' hb hc => ⟨v, hv.stays bndAt_stays hb, hc 0 _ rfl, hc 1 _ rfl, hc 2 _ rfl⟩⟩
theorem chgAt_movable : Movable ChgAt 3 := fun w b p x ⟨v, hv, h0, h1, h2⟩ =>
  ⟨[.int .i64 x.sg, .int .i64 x.q, v], rfl, by simp [Value.oneCell']; exact sl_oneCell hv, fun j u hj => by
    match j, hj with
    | 0, hj => simp at hj; subst hj; exact h0
    | 1, hj => simp at hj; subst hj; exact h1
    | 2, hj => simp at hj; subst hj; exact h2
    | j + 3, hj => simp at hj, fun W b' p' hb hc => ⟨v, hv.stays bndAt_stays hb, hc 0 _ rfl, hc 1 _ rfl, hc 2 _ rfl⟩⟩
end Go.Proofs.YtclpglgigpjfoaaGreatDoor
namespace Go.Proofs.YtclpglgigpjfoaaGreatDoor
open Go.RowKit

def VlAt (w : World) (b p : Nat) (x : Vl) : Prop :=
  w.cell? ⟨b, p, none⟩ = some (.int .i64 x.kind) ∧ w.cell? ⟨b, p + 1, none⟩ = some (.int .i64 x.num) ∧ w.cell? ⟨b, p + 2, none⟩ = some (.string x.text)
theorem vlAt_stays : Stays VlAt := fun _ _ _ _ _ hb ⟨h0, h1, h2⟩ => ⟨cell_stays hb h0, cell_stays hb h1, cell_stays hb h2⟩
abbrev IsVls (w : World) (v : Value) (l : List Vl) : Prop := Sl VlAt 3 w v l
def EvtAt (w : World) (b p : Nat) (x : Evt) : Prop := ∃ v, IsVls w v x.vals ∧
  w.cell? ⟨b, p, none⟩ = some (.int .i64 x.src) ∧ w.cell? ⟨b, p + 1, none⟩ = some (.int .i64 x.sq) ∧ w.cell? ⟨b, p + 2, none⟩ = some (.int .i64 x.ty) ∧ w.cell? ⟨b, p + 3, none⟩ = some (.int .i64 x.tm) ∧ w.cell? ⟨b, p + 4, none⟩ = some v
theorem evtAt_stays : Stays EvtAt := fun _ _ _ _ _ hb ⟨v, hv, h0, h1, h2, h3, h4⟩ => ⟨v, hv.stays vlAt_stays hb, cell_stays hb h0, cell_stays hb h1, cell_stays hb h2, cell_stays hb h3, cell_stays hb h4⟩
abbrev IsEvts (w : World) (v : Value) (l : List Evt) : Prop := Sl EvtAt 5 w v l
/-- the events of one variable; an environment is a list of them -/
def VarAt (w : World) (b p : Nat) (x : List Evt) : Prop := ∃ v, IsEvts w v x ∧ w.cell? ⟨b, p, none⟩ = some v
theorem varAt_stays : Stays VarAt := fun _ _ _ _ _ hb ⟨v, hv, h0⟩ => ⟨v, hv.stays evtAt_stays hb, cell_stays hb h0⟩
abbrev IsVars (w : World) (v : Value) (l : List (List Evt)) : Prop := Sl VarAt 1 w v l
/-- an event by value -/
def evtV (x : Evt) (v : Value) : Value := .agg #[.int .i64 x.src, .int .i64 x.sq, .int .i64 x.ty, .int .i64 x.tm, v]
def refV (x : Bnd) : Value := .agg #[.int .i64 x.t, .int .i64 x.s, .int .i64 x.n]
end Go.Proofs.YtclpglgigpjfoaaGreatDoor
