/- Entries in memory that was not there: what the results of a call do not share with anything older. -/
import Derived.Test.YtlofjcicpkfcdaaGreatDoorLdata
import Derived.Test.YtlofjcicpkfcdaaGreatDoorLdel
namespace Go.Proofs.YtlofjcicpkfcdaaGreatDoor
open Go.RowKit

def EntN (B : Nat) (w : World) (b p : Nat) (x : Ety) : Prop := B ≤ b ∧ ∃ v, IsBnds w v x.bs ∧ (∀ g, v.ownBlock = some g → B ≤ g) ∧
  w.cell? ⟨b, p, none⟩ = some (.int .i64 x.q) ∧ w.cell? ⟨b, p + 1, none⟩ = some v ∧ w.cell? ⟨b, p + 2, none⟩ = some (.int .i64 x.n)
abbrev NewEnts (B : Nat) (w : World) (v : Value) (l : List Ety) : Prop := Sl (EntN B) 3 w v l
theorem sl_imp {α : Type} {R S : World → Nat → Nat → α → Prop} {sz : Nat} {w W : World} {v : Value} {l : List α} (h : Sl R sz w v l) (hi : ∀ b p x, R w b p x → S W b p x) : Sl S sz W v l := by
  obtain ⟨A, c, hv, h1, h2, h3⟩ := h
  refine ⟨A, c, hv, h1, h2, fun k x hk => ?_⟩
  obtain ⟨b, o, hA, hx⟩ := h3 k x hk
  exact ⟨b, o, hA, hi _ _ _ hx⟩
theorem NewEnts.is {B : Nat} {w : World} {v : Value} {l : List Ety} (h : NewEnts B w v l) : IsEnts w v l :=
  sl_imp h fun _ _ _ ⟨_, u, h1, _, h3⟩ => ⟨u, h1, h3⟩
theorem NewEnts.of {w : World} {v : Value} {l : List Ety} (h : IsEnts w v l) : NewEnts 0 w v l :=
  sl_imp h fun _ _ _ ⟨u, h1, h3⟩ => ⟨Nat.zero_le _, u, h1, fun _ _ => Nat.zero_le _, h3⟩
theorem NewEnts.mono {B C : Nat} {w : World} {v : Value} {l : List Ety} (h : NewEnts B w v l) (hc : C ≤ B) : NewEnts C w v l :=
  sl_imp h fun _ _ _ ⟨h0, u, h1, h2, h3⟩ => ⟨Nat.le_trans hc h0, u, h1, fun g hg => Nat.le_trans hc (h2 g hg), h3⟩
/-- whatever becomes of the blocks below B -/
theorem NewEnts.kept {B : Nat} {w W : World} {v : Value} {l : List Ety} (h : NewEnts B w v l) (hk : ∀ g, B ≤ g → g < w.heap.size → W.heap[g]? = w.heap[g]?) : NewEnts B W v l :=
  sl_imp h fun b p x ⟨h0, u, h1, h2, c0, c1, c2⟩ => by
    have hb : W.heap[b]? = w.heap[b]? := hk b h0 (World.block_lt_of_cell? w ⟨b, p, none⟩ c0)
    refine ⟨h0, u, sl_kept' h1 fun g hg hu => hk g (h2 g hu) hg, h2, ?_, ?_, ?_⟩
    · exact (World.cell?_of_block (a := ⟨b, p, none⟩) hb).trans c0
    · exact (World.cell?_of_block (a := ⟨b, p + 1, none⟩) hb).trans c1
    · exact (World.cell?_of_block (a := ⟨b, p + 2, none⟩) hb).trans c2
theorem NewEnts.grow {B : Nat} {w W : World} {v : Value} {l : List Ety} (h : NewEnts B w v l) (hb : Below w.heap.size w W) : NewEnts B W v l :=
  h.kept fun g _ hg => hb.block g hg
end Go.Proofs.YtlofjcicpkfcdaaGreatDoor
