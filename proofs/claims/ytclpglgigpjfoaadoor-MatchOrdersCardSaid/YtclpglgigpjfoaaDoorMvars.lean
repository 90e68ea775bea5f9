/- Environments that a call makes: rows of events, one for each variable; slices.Clone at values. -/
import Derived.Test.YtclpglgigpjfoaaDoorMbind
import Derived.Test.YtclpglgigpjfoaaDoorMdata
import Derived.OwnWalk
namespace Go.Proofs.YtclpglgigpjfoaaDoor
open Go.RowKit

theorem vlAt_movable : Movable VlAt 3 := fun w b p x ⟨h0, h1, h2⟩ =>
  ⟨[.int .i64 x.kind, .int .i64 x.num, .string x.text], rfl, by simp [Value.oneCell'], fun j u hj => by
    match j, hj with
    | 0, hj => simp at hj; subst hj; exact h0
    | 1, hj => simp at hj; subst hj; exact h1
    | 2, hj => simp at hj; subst hj; exact h2
    | j + 3, hj => simp at hj, fun W b' p' _ hc => ⟨hc 0 _ rfl, hc 1 _ rfl, hc 2 _ rfl⟩⟩
theorem sl_keptR {α : Type} {R : World → Nat → Nat → α → Prop} {sz : Nat} (hR : ∀ w w' b p x, w'.heap[b]? = w.heap[b]? → R w b p x → R w' b p x) (hlt : ∀ w b p x, R w b p x → b < w.heap.size)
    {w w' : World} {v : Value} {l : List α} (h : Sl R sz w v l) (hk : l ≠ [] → ∀ g, g < w.heap.size → v.ownBlock = some g → w'.heap[g]? = w.heap[g]?) : Sl R sz w' v l := by
  obtain ⟨A, c, rfl, h1, h2, h3⟩ := h
  refine ⟨A, c, rfl, h1, h2, fun k x hx => ?_⟩
  obtain ⟨b, o, rfl, hr⟩ := h3 k x hx
  exact ⟨b, o, rfl, hR _ _ _ _ _ (hk (fun e => by rw [e] at hx; simp at hx) b (hlt _ _ _ _ hr) rfl) hr⟩
theorem vlAt_local : ∀ w w' b p x, w'.heap[b]? = w.heap[b]? → VlAt w b p x → VlAt w' b p x := fun w w' b p x h ⟨h0, h1, h2⟩ =>
  ⟨(World.cell?_of_block (a := ⟨b, p, none⟩) h).trans h0, (World.cell?_of_block (a := ⟨b, p + 1, none⟩) h).trans h1, (World.cell?_of_block (a := ⟨b, p + 2, none⟩) h).trans h2⟩
theorem vlAt_lt : ∀ w b p x, VlAt w b p x → b < w.heap.size := fun w b p _ ⟨h0, _⟩ => World.block_lt_of_cell? w ⟨b, p, none⟩ h0
theorem vls_kept {w w' : World} {v : Value} {l : List Vl} (h : IsVls w v l) (hk : l ≠ [] → ∀ g, g < w.heap.size → v.ownBlock = some g → w'.heap[g]? = w.heap[g]?) : IsVls w' v l := sl_keptR vlAt_local vlAt_lt h hk
theorem vls_lt {w : World} {v : Value} {l : List Vl} (h : IsVls w v l) (hl : l ≠ []) {g : Nat} (hg : v.ownBlock = some g) : g < w.heap.size := by
  obtain ⟨A, c, rfl, h1, h2, h3⟩ := h
  cases l with
  | nil => exact absurd rfl hl
  | cons x l =>
    obtain ⟨b, o, rfl, hr⟩ := h3 0 x rfl
    have : b = g := by simpa [Value.ownBlock] using hg
    subst this
    exact vlAt_lt _ _ _ _ hr

abbrev EV := Evt × Value
def evCells (l : List EV) : List Value := l.flatMap fun e => [.int .i64 e.1.src, .int .i64 e.1.sq, .int .i64 e.1.ty, .int .i64 e.1.tm, e.2]
theorem evCells_app (l m : List EV) : evCells (l ++ m) = evCells l ++ evCells m := List.flatMap_append
theorem evCells_mean {w : World} : ∀ {l : List EV}, (∀ e ∈ l, IsVls w e.2 e.1.vals) → Means EvtAt 5 w (evCells l) (l.map (·.1))
  | [], _ => Means.nil
  | e :: l, h => by
    have he := h e (List.mem_cons_self ..)
    have h1 : Means EvtAt 5 w [.int .i64 e.1.src, .int .i64 e.1.sq, .int .i64 e.1.ty, .int .i64 e.1.tm, e.2] [e.1] := ⟨rfl, by simp [Value.oneCell']; exact sl_oneCell he, fun W b o hb hc k y hk => by
      cases k with
      | zero =>
        simp at hk; subst hk
        have c0 := hc 0 _ rfl
        have c1 := hc 1 _ rfl
        have c2 := hc 2 _ rfl
        have c3 := hc 3 _ rfl
        have c4 := hc 4 _ rfl
        exact ⟨e.2, he.stays vlAt_stays hb, by simpa using c0, by simpa using c1, by simpa using c2, by simpa using c3, by simpa using c4⟩
      | succ k => simp at hk⟩
    exact h1.app (evCells_mean fun x hx => h x (List.mem_cons_of_mem _ hx))
/-- block g holds a row of events for each variable, each in memory of its own from block B on; their values lie in older memory, below block A, or from B on -/
structure VarsW (A B g : Nat) (w : World) (vs : List Value) (es : List (List EV)) : Prop where
  len : vs.length = es.length
  low : A ≤ g ∧ g < B
  blk : w.heap[g]? = some (.cells vs.toArray 52 (0, 0))
  row : ∀ (k : Nat) (v : Value) (l : List EV), vs[k]? = some v → es[k]? = some l → w.ownsRow B 73 5 v l.length (evCells l)
  apart : ∀ (j k : Nat) (u v : Value), vs[j]? = some u → vs[k]? = some v → j ≠ k → ∀ h, u.ownBlock = some h → v.ownBlock ≠ some h
  vals : ∀ (k : Nat) (l : List EV), es[k]? = some l → ∀ e ∈ l, IsVls w e.2 e.1.vals ∧ (e.1.vals ≠ [] → ∀ h, e.2.ownBlock = some h → (h < A ∨ B ≤ h) ∧ ∀ v ∈ vs, v.ownBlock ≠ some h)
section
variable {A B g : Nat} {w w' : World} {vs : List Value} {es : List (List EV)}
theorem VarsW.grow (h : VarsW A B g w vs es) (hb : Below w.heap.size w w') : VarsW A B g w' vs es :=
  ⟨h.len, h.low, (hb.block g (blk_lt h.blk)).trans h.blk, fun k v l h1 h2 => ownsRow_below (h.row k v l h1 h2) hb, h.apart, fun k l h1 e he => ⟨(h.vals k l h1 e he).1.stays vlAt_stays hb, (h.vals k l h1 e he).2⟩⟩
/-- a store into a block between the old memory and the rows -/
theorem VarsW.set (h : VarsW A B g w vs es) {R : Nat} (hR : A ≤ R ∧ R < B) (hne : R ≠ g) (i : Nat) (u : Value) : VarsW A B g (w.setCell ⟨R, i, none⟩ u) vs es :=
  ⟨h.len, h.low, (Below.heap_setCell w ⟨R, i, none⟩ u g (Ne.symm hne)).trans h.blk, fun k v l h1 h2 => ownsRow_kept (h.row k v l h1 h2) fun b hb => Below.heap_setCell w ⟨R, i, none⟩ u b (by have := (ownsRow_lt (h.row k v l h1 h2) hb).1; simp only; omega), h.apart,
    fun k l h1 e he => ⟨vls_kept (h.vals k l h1 e he).1 fun hn b _ hb => Below.heap_setCell w ⟨R, i, none⟩ u b (by have := ((h.vals k l h1 e he).2 hn b hb).1; simp only; omega), (h.vals k l h1 e he).2⟩⟩
theorem getD_of {α : Type} {l : List α} {k : Nat} {x : α} (h : l[k]? = some x) : k < l.length := (List.getElem?_eq_some_iff.1 h).1
theorem VarsW.app (h : VarsW A B g w vs es) {k : Nat} {v v7 u : Value} {l : List EV} {x : Evt} {w7 : World} (hv : vs[k]? = some v) (hl : es[k]? = some l) (hB : B ≤ w.heap.size)
    (hown : w7.ownsRow B 73 5 v7 (l.length + 1) (evCells l ++ [.int .i64 x.src, .int .i64 x.sq, .int .i64 x.ty, .int .i64 x.tm, u])) (hg : w.grownBy w7 v.ownBlock) (hloc : v7.ownBlock = v.ownBlock ∨ v7.ownBlock = some w.heap.size)
    (hu : IsVls w u x.vals) (hun : x.vals ≠ [] → ∀ h, u.ownBlock = some h → (h < A ∨ B ≤ h) ∧ ∀ v ∈ vs, v.ownBlock ≠ some h) :
    VarsW A B g (w7.setCell ⟨g, k, none⟩ v7) (vs.set k v7) (es.set k (l ++ [(x, u)])) := by
  have hkl := getD_of hv
  have hkl2 := getD_of hl
  have hgl := blk_lt h.blk
  have hrow := h.row k v l hv hl
  have hvg : v.ownBlock ≠ some g := fun e => by have := (ownsRow_lt hrow e).1; have := h.low.2; omega
  have hblk7 : w7.heap[g]? = some (.cells vs.toArray 52 (0, 0)) := (hg.block g hgl (fun e => hvg e.symm)).trans h.blk
  have hv7 : ∀ b, v7.ownBlock = some b → B ≤ b ∧ b < w7.heap.size := fun b hb => ownsRow_lt hown hb
  -- the blocks that are kept
  have hk : ∀ b, b < w.heap.size → b ≠ g → v.ownBlock ≠ some b → (w7.setCell ⟨g, k, none⟩ v7).heap[b]? = w.heap[b]? := fun b hb hbg hbv =>
    (Below.heap_setCell w7 ⟨g, k, none⟩ v7 b hbg).trans (hg.block b hb (fun e => hbv e.symm))
  have hold : ∀ (j : Nat) (u' : Value), vs[j]? = some u' → ∀ b, u'.ownBlock = some b → B ≤ b ∧ b < w.heap.size := fun j u' hj b hb => by
    have hj2 : j < es.length := by rw [← h.len]; exact getD_of hj
    exact ownsRow_lt (h.row j u' es[j] hj (List.getElem?_eq_getElem hj2)) hb
  have hnew : ∀ (j : Nat) (u' : Value), j ≠ k → vs[j]? = some u' → ∀ b, u'.ownBlock = some b → v7.ownBlock ≠ some b := fun j u' hjk hj b hb e => by
    rcases hloc with e2 | e2
    · rw [e2] at e; exact h.apart j k u' v hj hv hjk b hb e
    · rw [e2] at e; injection e with e; have := (hold j u' hj b hb).2; omega
  have hval : ∀ (y : EV), IsVls w y.2 y.1.vals → (y.1.vals ≠ [] → ∀ b, y.2.ownBlock = some b → (b < A ∨ B ≤ b) ∧ ∀ v ∈ vs, v.ownBlock ≠ some b) →
      IsVls (w7.setCell ⟨g, k, none⟩ v7) y.2 y.1.vals ∧ (y.1.vals ≠ [] → ∀ b, y.2.ownBlock = some b → (b < A ∨ B ≤ b) ∧ ∀ v ∈ vs.set k v7, v.ownBlock ≠ some b) := fun y h1 h2 => by
    refine ⟨vls_kept h1 fun hne b hb hyb => hk b hb (by have := (h2 hne b hyb).1; have := h.low; omega) ((h2 hne b hyb).2 v (List.mem_of_getElem? hv)), fun hne b hyb => ⟨(h2 hne b hyb).1, fun z hz e => ?_⟩⟩
    rcases List.mem_or_eq_of_mem_set hz with hz | rfl
    · exact (h2 hne b hyb).2 z hz e
    · rcases hloc with e2 | e2
      · rw [e2] at e; exact (h2 hne b hyb).2 v (List.mem_of_getElem? hv) e
      · rw [e2] at e; injection e with e; have := vls_lt h1 hne hyb; omega
  refine ⟨by rw [List.length_set, List.length_set]; exact h.len, h.low, ?_, ?_, ?_, ?_⟩
  · have := blk_set hblk7 k v7; exact this
  · intro j u' m hj hm
    by_cases hjk : k = j
    · subst hjk
      rw [List.getElem?_set_self hkl] at hj
      rw [List.getElem?_set_self hkl2] at hm
      injection hj with hj; injection hm with hm
      subst hj hm
      rw [List.length_append, evCells_app]
      exact ownsRow_kept hown fun b hb => Below.heap_setCell w7 ⟨g, k, none⟩ v7 b (by have := (hv7 b hb).1; have := h.low.2; simp only; omega)
    · rw [List.getElem?_set_ne hjk] at hj hm
      exact ownsRow_kept (h.row j u' m hj hm) fun b hb => hk b (hold j u' hj b hb).2 (by have := (hold j u' hj b hb).1; have := h.low.2; omega) (fun e => h.apart j k u' v hj hv (Ne.symm hjk) b hb e)
  · intro i j a b hi hj hij c hc e
    by_cases hik : k = i
    · subst hik
      rw [List.getElem?_set_self hkl] at hi
      injection hi with hi
      subst hi
      rw [List.getElem?_set_ne hij] at hj
      exact hnew j b (Ne.symm hij) hj c e hc
    · rw [List.getElem?_set_ne hik] at hi
      by_cases hjk : k = j
      · subst hjk
        rw [List.getElem?_set_self hkl] at hj
        injection hj with hj
        subst hj
        exact hnew i a hij hi c hc e
      · rw [List.getElem?_set_ne hjk] at hj
        exact h.apart i j a b hi hj hij c hc e
  · intro j m hm y hy
    by_cases hjk : k = j
    · subst hjk
      rw [List.getElem?_set_self hkl2] at hm
      injection hm with hm
      subst hm
      rcases List.mem_append.1 hy with hy | hy
      · exact hval y (h.vals k l hl y hy).1 (h.vals k l hl y hy).2
      · simp at hy
        subst hy
        exact hval (x, u) hu hun
    · rw [List.getElem?_set_ne hjk] at hm
      exact hval y (h.vals j m hm y hy).1 (h.vals j m hm y hy).2
theorem VarsW.is (h : VarsW A B g w vs es) (hm : es.length ≤ maxLen) : IsVars w (.slice (some ⟨g, 0, none⟩) es.length es.length) (es.map fun l => l.map (·.1)) := by
  refine ⟨_, es.length, by rw [List.length_map], by rw [List.length_map]; exact Nat.le_refl _, hm, fun k x hk => ⟨g, 0, rfl, ?_⟩⟩
  rw [List.getElem?_map] at hk
  obtain ⟨l, hl, rfl⟩ := Option.map_eq_some_iff.1 hk
  have hkv : k < vs.length := by rw [h.len]; exact getD_of hl
  have hv := List.getElem?_eq_getElem hkv
  refine ⟨vs[k], sl_of_means (evCells_mean fun e he => (h.vals k l hl e he).1) (Below.refl _ _) (by have := h.row k vs[k] l hv hl; rwa [List.length_map]), ?_⟩
  rw [blk_cell h.blk, Nat.zero_add, Nat.mul_one]
  exact hv
/-- n empty rows -/
theorem varsW_made {n : Nat} (hb : w.heap[g]? = some (.cells (List.replicate n (Value.slice none 0 0)).toArray 52 (0, 0))) (hB : A ≤ g ∧ g < B) : VarsW A B g w (List.replicate n (.slice none 0 0)) (List.replicate n []) := by
  have hr : ∀ (k : Nat) (v : Value), (List.replicate n (Value.slice none 0 0))[k]? = some v → v = .slice none 0 0 := fun k v h => (List.mem_replicate.1 (List.mem_of_getElem? h)).2
  refine ⟨by simp, hB, hb, fun k v l h1 h2 => ?_, fun j k u v h1 h2 _ h e => ?_, fun k l h1 e he => ?_⟩
  · rw [hr k v h1, (List.mem_replicate.1 (List.mem_of_getElem? h2)).2]
    exact ⟨rfl, .inl ⟨rfl, rfl⟩⟩
  · rw [hr j u h1] at e; simp [Value.ownBlock] at e
  · rw [(List.mem_replicate.1 (List.mem_of_getElem? h1)).2] at he; simp at he
end

theorem info_vl : (Tryd.prog.info? 79).map (fun i => (i.zero, i.size, i.bytes)) = some (some (.agg #[.int .i64 0, .int .i64 0, .string ByteArray.empty]), 3, 32) := by kernel_rfl
theorem info_evt : (Tryd.prog.info? 73).map (fun i => (i.zero, i.size, i.bytes)) = some (some (.agg #[.int .i64 0, .int .i64 0, .int .i64 0, .int .i64 0, .slice none 0 0]), 5, 56) := by kernel_rfl
theorem info_evts : (Tryd.prog.info? 52).map (fun i => (i.zero, i.size, i.bytes)) = some (some (.slice none 0 0), 1, 24) := by kernel_rfl
theorem cloneVals (A : Option Addr) (n c : Nat) (cs : List Value) (w : World) (hs : Src w A n 3 cs) (hn : n ≤ 1048576) :
    Calls Tryd.prog 29 #[.slice A n c] w (OwnRet 79 3 n cs w) := by
  obtain ⟨i0, hi, hz0, hz1, hz2⟩ := info_parts info_vl
  have he := fun W => Lib.run_eql_slice_nil W 71 79 A n c 0 0 Tryd.underlying71
  cases A with
  | none =>
    have h0 : n = 0 := by
      rcases Nat.eq_zero_or_pos n with h | h
      · exact h
      · obtain ⟨b, o, hA, _⟩ := hs.2.2 h; cases hA
    subst h0
    have hcs : cs = [] := List.eq_nil_of_length_eq_zero (by simpa using hs.1)
    subst hcs
    clear hs
    go_enter Tryd.func29, Tryd.ntmps29
    go_wp2
    go_ret
    exact ⟨_, rfl, ⟨by simp, .inl ⟨rfl, rfl⟩⟩, Below.refl _ _⟩
  | some ad =>
    have HS := Lib.hid hs
    clear hs
    go_enter Tryd.func29, Tryd.ntmps29
    go_wp2_with (at_builtin; refine wpList_app _ rfl (.tmp 5) (.tmp 6) 71 rfl w.heap.size 79 i0 _ 3 32 Tryd.underlying71 hi hz0 hz1 hz2 rfl (by decide) (.slice (some ⟨w.heap.size, 0, none⟩) 0 0) 0 [] rfl (ownsRow_empty w _ _ _ (Nat.le_refl _)) (some ad) n c cs rfl (HS.out.stays (bel_al (Below.refl _ _) _)) (by unfold maxLen; omega) (by omega) (by simp) ?_; intro v1 w1 hown hg hloc)
    go_ret
    exact ⟨_, rfl, by simpa using hown, (bel_al (Below.refl _ _) _).trans (grown_below hg (by simp) (fun g h => Nat.le_of_eq (by simpa [Value.ownBlock] using h)))⟩
def NewVls (B : Nat) (w : World) (v : Value) (l : List Vl) : Prop := IsVls w v l ∧ ∀ g, v.ownBlock = some g → B ≤ g ∧ g < w.heap.size
theorem cloneV_any (l : List Vl) (v : Value) (w : World) (hl : IsVls w v l) (hn : l.length ≤ 1048576) :
    Calls Tryd.prog 29 #[v] w fun e w' => ∃ v', e = .returned v' ∧ NewVls w.heap.size w' v' l ∧ Below w.heap.size w w' := by
  obtain ⟨A, c, rfl, h1, h2, hat⟩ := hl
  obtain ⟨cs, hm, hs, -⟩ := means_of_sl vlAt_movable ⟨A, c, rfl, h1, h2, hat⟩
  refine (cloneVals A l.length c cs w hs hn).mono ?_
  rintro e w3 ⟨v3, rfl, ho3, hb3⟩
  exact ⟨v3, rfl, ⟨sl_of_means hm hb3 ho3, fun g hg => ownsRow_lt ho3 hg⟩, hb3⟩
end Go.Proofs.YtclpglgigpjfoaaDoor
