/- The copy of channels with items of their own. -/
import Derived.Test.YteonfoaemljndaaClone
import Derived.Test.YteonfoaemljndaaMean
import Derived.Test.YteonfoaemljndaaItms
namespace Go.Proofs.Yteonfoaemljndaa
open Go.RowKit

/-- rows of items that the call has made, apart from each other and from block g -/
structure OwnList (w : World) (B : Nat) (W : World) (g : Nat) (l : List Queue) (vs : List Value) : Prop where
  row : ∀ (j : Nat) (v : Value) (q : Queue), vs[j]? = some v → l[j]? = some q → ∃ cs, Means ItemAt 7 w cs q.items ∧ W.ownsRow B 39 7 v q.items.length cs ∧ v.ownBlock ≠ some g
  apart : ∀ (i j : Nat) (u v : Value) (b : Nat), vs[i]? = some u → vs[j]? = some v → u.ownBlock = some b → v.ownBlock = some b → i = j

theorem OwnList.kept {w W W' : World} {B g : Nat} {l : List Queue} {vs : List Value} (h : OwnList w B W g l vs) (hk : ∀ b, b < W.heap.size → b ≠ g → W'.heap[b]? = W.heap[b]?) : OwnList w B W' g l vs := by
  refine ⟨fun j v q hv hq => ?_, h.apart⟩
  obtain ⟨cs, hm, ho, hn⟩ := h.row j v q hv hq
  exact ⟨cs, hm, ownsRow_kept ho (fun b hb => hk b (ownsRow_lt ho hb).2 (fun e => hn (by rw [hb, e]))), hn⟩

theorem OwnList.snoc {w W : World} {B g : Nat} {l : List Queue} {vs : List Value} (h : OwnList w B W g l vs) {v : Value} {q : Queue} {cs : List Value} {base : Nat} (hq : l[vs.length]? = some q) (hm : Means ItemAt 7 w cs q.items)
    (ho : W.ownsRow base 39 7 v q.items.length cs) (hbase : B ≤ base) (hg : g < base) (hold : ∀ (j : Nat) (u : Value) (b : Nat), vs[j]? = some u → u.ownBlock = some b → b < base) : OwnList w B W g l (vs ++ [v]) := by
  have hvg : ∀ b, v.ownBlock = some b → base ≤ b := fun b hb => (ownsRow_lt ho hb).1
  refine ⟨fun j u p hu hp => ?_, fun i j u u' b hu hu' hb hb' => ?_⟩
  · rcases Nat.lt_or_ge j vs.length with hj | hj
    · rw [List.getElem?_append_left hj] at hu
      exact h.row j u p hu hp
    · rw [List.getElem?_append_right hj] at hu
      obtain ⟨hj', hu⟩ := List.getElem?_eq_some_iff.1 hu
      simp only [List.length_singleton] at hj'
      obtain rfl : j = vs.length := by omega
      simp at hu
      subst hu
      rw [hq] at hp
      injection hp with hp
      subst hp
      exact ⟨cs, hm, ownsRow_more ho hbase, fun e => by have := hvg g e; omega⟩
  · have key : ∀ (k : Nat) (x : Value), (vs ++ [v])[k]? = some x → (k < vs.length ∧ vs[k]? = some x) ∨ (k = vs.length ∧ x = v) := fun k x hx => by
      rcases Nat.lt_or_ge k vs.length with hk | hk
      · rw [List.getElem?_append_left hk] at hx; exact .inl ⟨hk, hx⟩
      · rw [List.getElem?_append_right hk] at hx
        obtain ⟨hk', hx⟩ := List.getElem?_eq_some_iff.1 hx
        simp only [List.length_singleton] at hk'
        obtain rfl : k = vs.length := by omega
        simp at hx
        exact .inr ⟨rfl, hx.symm⟩
    rcases key i u hu with ⟨_, h1⟩ | ⟨h1, e1⟩ <;> rcases key j u' hu' with ⟨_, h2⟩ | ⟨h2, e2⟩
    · exact h.apart i j u u' b h1 h2 hb hb'
    · subst e2
      have := hold i u b h1 hb
      have := hvg b hb'
      omega
    · subst e1
      have := hold j u' b h2 hb'
      have := hvg b hb
      omega
    · omega

/-- the queues l lie in block g, each with a row of items of the call's own -/
structure Copied (w : World) (B : Nat) (W : World) (v : Value) (l : List Queue) (vs : List Value) (g cap : Nat) (spare : List Value) : Prop where
  val : v = .slice (some ⟨g, 0, none⟩) l.length cap
  le : l.length ≤ cap
  capm : cap ≤ maxLen
  base : B ≤ g
  wB : w.heap.size ≤ B
  blk : W.heap[g]? = some (.cells (qcells l vs ++ spare).toArray 69 (0, 0))
  len : vs.length = l.length
  own : OwnList w B W g l vs
  bel : Below w.heap.size w W

theorem blk_cell {W : World} {g t : Nat} {cs : List Value} (h : W.heap[g]? = some (.cells cs.toArray t (0, 0))) (i : Nat) : W.cell? ⟨g, i, none⟩ = cs[i]? := by simp [World.cell?, h]
theorem blk_frozen {W : World} {g t : Nat} {cs : List Value} (h : W.heap[g]? = some (.cells cs.toArray t (0, 0))) (i : Nat) : W.frozen? ⟨g, i, none⟩ = false := by simp [World.frozen?, h]
theorem blk_lt {W : World} {g t : Nat} {cs : Array Value} (h : W.heap[g]? = some (.cells cs t (0, 0))) : g < W.heap.size := by
  rcases Nat.lt_or_ge g W.heap.size with h' | h'
  · exact h'
  · rw [Array.getElem?_eq_none h'] at h; cases h
theorem blk_set {W : World} {g t : Nat} {cs : List Value} (h : W.heap[g]? = some (.cells cs.toArray t (0, 0))) (i : Nat) (v : Value) : (W.setCell ⟨g, i, none⟩ v).heap[g]? = some (.cells (cs.set i v).toArray t (0, 0)) := by
  simp [World.setCell, Array.getElem?_modify, h]
end Go.Proofs.Yteonfoaemljndaa
