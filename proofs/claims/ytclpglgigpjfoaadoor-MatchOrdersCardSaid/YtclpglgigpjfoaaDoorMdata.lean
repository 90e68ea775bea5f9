/- How values, events and environments lie in memory: plain definitions and their frame laws. -/
import Derived.Test.YtclpglgigpjfoaaDoorLdata
import Derived.Test.YtclpglgigpjfoaaDoorMstr
namespace Go.Proofs.YtclpglgigpjfoaaDoor
open Go.RowKit

def VlAt (w : World) (b p : Nat) (x : Vl) : Prop :=
  w.cell? ⟨b, p, none⟩ = some (.int .i64 x.kind) ∧ w.cell? ⟨b, p + 1, none⟩ = some (.int .i64 x.num) ∧ w.cell? ⟨b, p + 2, none⟩ = some (.string x.text)
theorem vlAt_stays : Stays VlAt := fun _ _ _ _ _ hb ⟨h0, h1, h2⟩ => ⟨cell_stays hb h0, cell_stays hb h1, cell_stays hb h2⟩
abbrev IsVls (w : World) (v : Value) (l : List Vl) : Prop := Sl VlAt 3 w v l
def EvtAt (w : World) (b p : Nat) (x : Evt) : Prop := ∃ v, IsVls w v x.vals ∧
  w.cell? ⟨b, p, none⟩ = some (.int .i64 x.src) ∧ w.cell? ⟨b, p + 1, none⟩ = some (.int .i64 x.sq) ∧ w.cell? ⟨b, p + 2, none⟩ = some (.int .i64 x.ty) ∧ w.cell? ⟨b, p + 3, none⟩ = some (.int .i64 x.tm) ∧ w.cell? ⟨b, p + 4, none⟩ = some v
theorem evtAt_stays : Stays EvtAt := fun _ _ _ _ _ hb ⟨v, hv, h0, h1, h2, h3, h4⟩ => ⟨v, hv.stays vlAt_stays hb, cell_stays hb h0, cell_stays hb h1, cell_stays hb h2, cell_stays hb h3, cell_stays hb h4⟩
abbrev IsEvts (w : World) (v : Value) (l : List Evt) : Prop := Sl EvtAt 5 w v l
/-- the events of one variable; an environment is a list of them -/
def VarAt (w : World) (b p : Nat) (x : List Evt) : Prop := ∃ v, IsEvts w v x ∧ w.cell? ⟨b, p, none⟩ = some v
theorem varAt_stays : Stays VarAt := fun _ _ _ _ _ hb ⟨v, hv, h0⟩ => ⟨v, hv.stays evtAt_stays hb, cell_stays hb h0⟩
abbrev IsVars (w : World) (v : Value) (l : List (List Evt)) : Prop := Sl VarAt 1 w v l
/-- an event by value -/
def evtV (x : Evt) (v : Value) : Value := .agg #[.int .i64 x.src, .int .i64 x.sq, .int .i64 x.ty, .int .i64 x.tm, v]
def refV (x : Bnd) : Value := .agg #[.int .i64 x.t, .int .i64 x.s, .int .i64 x.n]
end Go.Proofs.YtclpglgigpjfoaaDoor
