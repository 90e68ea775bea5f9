/- match.Format: what it returns; how a row in a box is longer by one. -/
import Derived.Test.YtclpglgigpjfoaaDoorMparts
import Derived.Test.YtclpglgigpjfoaaDoorKown
import Derived.Lib.Join
namespace Go.Proofs.YtclpglgigpjfoaaDoor
open Go.RowKit Go.Lib

def firstE : List (ByteArray × Int) → Int
  | [] => 0
  | x :: l => if x.2 ≠ 0 then x.2 else firstE l
theorem firstE_stop : ∀ {p : List (ByteArray × Int)} {L : List (ByteArray × Int)} {t : ByteArray} {e : Int}, p ++ [(t, e)] <+: L → (∀ x ∈ p, x.2 = 0) → e ≠ 0 → firstE L = e
  | [], L, t, e, ⟨r, hr⟩, _, he => by subst hr; simp [firstE, he]
  | x :: p, L, t, e, ⟨r, hr⟩, hp, he => by
    cases L with
    | nil => simp at hr
    | cons y L =>
      simp only [List.cons_append, List.cons.injEq] at hr
      obtain ⟨rfl, hr⟩ := hr
      have h0 := hp x (List.mem_cons_self ..)
      unfold firstE
      rw [if_neg (by simp [h0])]
      exact firstE_stop ⟨r, hr⟩ (fun z hz => hp z (List.mem_cons_of_mem _ hz)) he
theorem firstE_none : ∀ {L : List (ByteArray × Int)}, (∀ x ∈ L, x.2 = 0) → firstE L = 0
  | [], _ => rfl
  | x :: L, h => by
    unfold firstE
    rw [if_neg (by simp [h x (List.mem_cons_self ..)])]
    exact firstE_none (fun z hz => h z (List.mem_cons_of_mem _ hz))
def joinB (l : List ByteArray) : ByteArray := ⟨(join (l.map (·.data.toList)) [32]).toArray⟩
def formatR (vs : List Nv) (bs : List Bnd) : ByteArray × Int :=
  if matErr bs ≠ 0 then (noText, matErr bs) else if firstE (bs.map (partE vs)) ≠ 0 then (noText, firstE (bs.map (partE vs))) else (joinB ((bs.map (partE vs)).map (·.1)), 0)
theorem formatR_bad {vs : List Nv} {bs : List Bnd} {e : Int} (h : matErr bs = e) (h0 : e ≠ 0) : formatR vs bs = (noText, e) := by unfold formatR; rw [h, if_pos h0]
theorem formatR_err {vs : List Nv} {bs : List Bnd} {e : Int} (h : matErr bs = 0) (h1 : firstE (bs.map (partE vs)) = e) (h0 : e ≠ 0) : formatR vs bs = (noText, e) := by unfold formatR; rw [h, if_neg (by simp), h1, if_pos h0]
theorem formatR_ok {vs : List Nv} {bs : List Bnd} (h : matErr bs = 0) (h1 : firstE (bs.map (partE vs)) = 0) : formatR vs bs = (joinB ((bs.map (partE vs)).map (·.1)), 0) := by unfold formatR; rw [h, if_neg (by simp), h1, if_neg (by simp)]
theorem join_len (sep : List UInt8) (m : Nat) : ∀ l : List (List UInt8), (∀ x ∈ l, x.length ≤ m) → (join l sep).length ≤ l.length * (m + sep.length)
  | [], _ => by simp [join_nil]
  | x :: l, h => by
    rw [join_cons]
    have h1 := h x (List.mem_cons_self ..)
    have h2 : ∀ l : List (List UInt8), (∀ x ∈ l, x.length ≤ m) → (joinTail sep l).length ≤ l.length * (m + sep.length) := by
      intro l
      induction l with
      | nil => intro _; simp [joinTail]
      | cons y l ih =>
        intro hl
        have e1 := ih (fun z hz => hl z (List.mem_cons_of_mem _ hz))
        have e2 := hl y (List.mem_cons_self ..)
        simp only [joinTail, List.map_cons, List.flatten_cons, List.length_append, List.length_cons] at e1 ⊢
        rw [Nat.succ_mul]
        omega
    have h3 := h2 l (fun z hz => h z (List.mem_cons_of_mem _ hz))
    simp only [List.length_append, List.length_cons]
    rw [Nat.succ_mul]
    omega
theorem partE_len {vs : List Nv} {b : Bnd} (hnm : ∀ v ∈ vs, v.name.data.toList.length ≤ 1048576) (hok : bndOk b = true) : (partE vs b).1.data.toList.length ≤ 1100000 := by
  have hpl : (0 ≤ b.t ∧ b.t ≤ 1099511627776) ∧ (0 ≤ b.s ∧ b.s ≤ 7) ∧ 0 ≤ b.n ∧ b.n ≤ 1099511627776 := by
    unfold bndOk plB inI at hok
    simp only [Bool.and_eq_true, decide_eq_true_eq] at hok
    omega
  unfold partE
  split
  · simp [noText]
  · split
    · simp [noText]
    · have hn : (nvOf vs b).name.size ≤ 1048576 := by
        unfold nvOf
        rw [List.getD_eq_getElem?_getD]
        cases hx : vs[b.v.toNat]? with
        | none => simp [zeroNv, noText, ByteArray.size]
        | some y => have := hnm y (List.mem_of_getElem? hx); simpa using this
      have q1 := itoaB_size b.t (by omega) (by omega)
      have q2 := itoaB_size b.s (by omega) (by omega)
      have q3 := itoaB_size b.n (by omega) (by omega)
      have hs : (textB (nvOf vs b).name b).size ≤ 1100000 := by
        unfold textB
        simp only [ByteArray.size_append]
        have e1 : atSign.size = 1 := rfl
        have e2 : slash.size = 1 := rfl
        omega
      simpa using hs

theorem grownTrans {wf X Y : World} {B : Nat} {row : Option Nat} (h : wf.grownBy X (some B)) (k : X.grownBy Y row) (hr : ∀ r, row = some r → r = B ∨ wf.heap.size ≤ r) : wf.grownBy Y (some B) := by
  refine ⟨k.os.trans h.os, k.tape.trans h.tape, k.output.trans h.output, Nat.le_trans h.size k.size, fun j hj hne => ?_⟩
  refine (k.block j (Nat.lt_of_lt_of_le hj h.size) fun e => ?_).trans (h.block j hj hne)
  rcases hr j e.symm with rfl | h1
  · exact hne rfl
  · omega
theorem grown_bel {w wf X : World} {B : Nat} (hb : Below w.heap.size w wf) (h : wf.grownBy X (some B)) (hB : w.heap.size ≤ B) : Below w.heap.size w X :=
  hb.grown h hb.size (fun k e => by cases e; exact hB)
theorem own_lt {W : World} {base e size : Nat} {v : Value} {k : Nat} {xs : List Value} (h : W.ownsRow base e size v k xs) {g : Nat} (hg : v.ownBlock = some g) : base ≤ g ∧ ∃ cur, W.heap[g]? = some (.cells cur e (0, 0)) := by
  rcases h.2 with ⟨rfl, _⟩ | ⟨g', cap, cur, rfl, h1, h2, _⟩
  · simp [Value.ownBlock] at hg
  · have : g' = g := by simpa [Value.ownBlock] using hg
    subst this
    exact ⟨h1, cur, h2⟩
/-- what the rounds of Format keep: the row in the box -/
def Out (wf : World) (B : Nat) (t e : TypeId) (l : List ByteArray) (W : World) : Prop :=
  wf.grownBy W (some B) ∧ ∃ v, Boxed W B t v ∧ W.ownsRow wf.heap.size e 1 v l.length (l.map Value.string)
theorem Out.own {wf : World} {B : Nat} {t e : TypeId} {l : List ByteArray} {X Y : World} {row : Option Nat} (hB : B < wf.heap.size) (h : Out wf B t e l X) (hg : X.grownBy Y row)
    (hr : ∀ r, row = some r → wf.heap.size ≤ r ∧ ∃ o : Obj, X.heap[r]? = some o ∧ o.isCells = false) : Out wf B t e l Y := by
  obtain ⟨h1, v, h2, h3⟩ := h
  refine ⟨grownTrans h1 hg (fun r e => .inr (hr r e).1), v, h2.kept hg (fun e => ?_), h3.kept hg ?_⟩
  · have := (hr B e.symm).1; omega
  · cases hv : v.ownBlock with
    | none =>
      rcases h3.2 with ⟨rfl, _⟩ | ⟨g, cap, cur, rfl, _⟩
      · exact .inl rfl
      · simp [Value.ownBlock] at hv
    | some g =>
      refine .inr fun e => ?_
      obtain ⟨_, cur, hc⟩ := own_lt h3 hv
      obtain ⟨_, o, ho, hc'⟩ := hr g e.symm
      rw [hc] at ho; cases ho; cases hc'
theorem out_app {wf W w1 : World} {B : Nat} {t e : TypeId} {l : List ByteArray} {s : ByteArray} {v v' : Value} {tmp : Obj} (hB : B < wf.heap.size) (hgW : wf.grownBy W (some B)) (hv : Boxed W B t v) (hrow : W.ownsRow wf.heap.size e 1 v l.length (l.map Value.string))
    (hown' : w1.ownsRow wf.heap.size e 1 v' (l.length + 1) (l.map Value.string ++ [.string s])) (hgrow : (W.alloc tmp).grownBy w1 v.ownBlock) :
    Boxed w1 B t v ∧ Out wf B t e (l ++ [s]) (w1.setCell ⟨B, 0, none⟩ v') ∧ KeepsOthers W (w1.setCell ⟨B, 0, none⟩ v') ∧ (∀ j, j < wf.heap.size → j ≠ B → (w1.setCell ⟨B, 0, none⟩ v').heap[j]? = W.heap[j]?) := by
  have hne : some B ≠ v.ownBlock := fun e => by have := (own_lt hrow e.symm).1; omega
  have hne' : some B ≠ v'.ownBlock := fun e => by have := (own_lt hown' e.symm).1; omega
  have hv1 : Boxed w1 B t v := (hv.alloc tmp).kept hgrow hne
  have hg1 : wf.grownBy (w1.setCell ⟨B, 0, none⟩ v') (some B) :=
    grownTrans (grownTrans (grownTrans hgW (World.grownBy_alloc W tmp none) (fun r e => by cases e)) hgrow (fun r e => .inr (own_lt hrow e).1)) (grownBy_setCell' w1 B v') (fun r e => by cases e; exact .inl rfl)
  refine ⟨hv1, ⟨hg1, v', hv1.set v', ?_⟩, ?_, fun j hj hjB => ?_⟩
  · have := hown'.kept (grownBy_setCell' w1 B v') (.inr hne'.symm)
    simpa using this
  · refine ((KeepsOthers.alloc W tmp).trans (KeepsOthers.of_grownBy hgrow fun j o ej hj => ?_)).trans (KeepsOthers.setCell _ _ _)
    obtain ⟨_, cur, hc⟩ := own_lt (hrow.alloc tmp) ej
    rw [hc] at hj; cases hj; rfl
  · exact (hg1.block j hj (fun e => by cases e; exact hjB rfl)).trans (hgW.block j hj (fun e => by cases e; exact hjB rfl)).symm
end Go.Proofs.YtclpglgigpjfoaaDoor
