/- Plain lemmas on memory that every proof of this seat uses: blocks that a call has made itself, kept apart from what was there before; regions that only read and call functions that make new memory. -/
import Derived.WalkKit
import Derived.WalkSpells
import Derived.WalkLawsBesides
import Derived.KernelRfl
import Derived.Deep.QuietTactic
import Derived.BigQuiet
import Derived.Lib.Hide
import Derived.Maps.AppendAt
namespace Go.Proofs.YtclpglgigpjfoaaGreatDoor
open Go.RowKit

theorem bel_al {w W : World} (h : Below w.heap.size w W) (o : Obj) : Below w.heap.size w (W.alloc o) := h.alloc h.size o
theorem bel_tr {w W w' : World} (h : Below w.heap.size w W) (hb : Below W.heap.size W w') : Below w.heap.size w w' := h.trans (hb.mono h.size)
theorem bel_set {w W : World} (h : Below w.heap.size w W) {b i : Nat} (hb : w.heap.size ≤ b) (v : Value) : Below w.heap.size w (W.setCell ⟨b, i, none⟩ v) := h.setCell (p := ⟨b, i, none⟩) hb v

/-- A block that the call itself has made: its number, its cells, its element type. -/
abbrev Ent := Nat × List Value × TypeId

/-- The world w, seen from the world w0 where the call began: what was there is as it was; the blocks of L are the call's own, apart from each other. -/
structure St (w0 w : World) (L : List Ent) : Prop where
  below : Below w0.heap.size w0 w
  own : ∀ e ∈ L, w.heap[e.1]? = some (.cells e.2.1.toArray e.2.2 (0, 0)) ∧ w0.heap.size ≤ e.1
  apart : L.Pairwise (fun a b => a.1 ≠ b.1)

section
variable {w0 w w' : World} {L : List Ent}

theorem St.start (w : World) : St w w [] := ⟨Below.refl _ _, by simp, by simp⟩

theorem St.lt (h : St w0 w L) {e : Ent} (he : e ∈ L) : e.1 < w.heap.size := by
  have := (h.own e he).1
  rcases Nat.lt_or_ge e.1 w.heap.size with h' | h'
  · exact h'
  · rw [Array.getElem?_eq_none h'] at this; cases this

theorem St.alloc (h : St w0 w L) (cs : List Value) (t : TypeId) : St w0 (w.alloc (.cells cs.toArray t)) ((w.heap.size, cs, t) :: L) := by
  refine ⟨h.below.alloc h.below.size _, ?_, ?_⟩
  · intro e he
    rcases List.mem_cons.1 he with rfl | he
    · exact ⟨heap_alloc_new w _, h.below.size⟩
    · exact ⟨(Below.heap_alloc w _ e.1 (h.lt he)).trans (h.own e he).1, (h.own e he).2⟩
  · refine List.Pairwise.cons ?_ h.apart
    intro e he
    have := h.lt he
    simp only [ne_eq]
    omega

theorem St.drew (h : St w0 w L) : St w0 w.drew L := ⟨h.below.drew, h.own, h.apart⟩

theorem St.call (h : St w0 w L) (hb : Below w.heap.size w w') : St w0 w' L :=
  ⟨h.below.trans (hb.mono h.below.size), fun e he => ⟨(hb.block e.1 (h.lt he)).trans (h.own e he).1, (h.own e he).2⟩, h.apart⟩

theorem St.cell (h : St w0 w L) {b : Nat} {cs : List Value} {t : TypeId} (he : (b, cs, t) ∈ L) (i : Nat) : w.cell? ⟨b, i, none⟩ = cs[i]? := by
  have := (h.own _ he).1
  simp [World.cell?, this]

theorem St.frozen (h : St w0 w L) {b : Nat} {cs : List Value} {t : TypeId} (he : (b, cs, t) ∈ L) (i : Nat) : w.frozen? ⟨b, i, none⟩ = false := by
  have := (h.own _ he).1
  simp [World.frozen?, this]

theorem St.old (h : St w0 w L) (b i : Nat) (hb : b < w0.heap.size) : w.cell? ⟨b, i, none⟩ = w0.cell? ⟨b, i, none⟩ := h.below.cell (p := ⟨b, i, none⟩) hb

theorem St.set (h : St w0 w L) (k : Nat) {b : Nat} {cs : List Value} {t : TypeId} (he : L[k]? = some (b, cs, t)) (i : Nat) (v : Value) :
    St w0 (w.setCell ⟨b, i, none⟩ v) (L.set k (b, cs.set i v, t)) := by
  have hk : k < L.length := (List.getElem?_eq_some_iff.1 he).1
  have hm : (b, cs, t) ∈ L := List.mem_of_getElem? he
  refine ⟨h.below.setCell (h.own _ hm).2 v, ?_, ?_⟩
  · intro e hme
    rcases List.mem_iff_getElem?.1 hme with ⟨j, hj⟩
    rw [List.getElem?_set] at hj
    by_cases hkj : k = j
    · subst hkj
      simp only [if_true, hk] at hj
      injection hj with hj
      subst hj
      refine ⟨?_, (h.own _ hm).2⟩
      have := (h.own _ hm).1
      simp [World.setCell, Array.getElem?_modify, this]
    · rw [if_neg hkj] at hj
      have hm' : e ∈ L := List.mem_of_getElem? hj
      have hne : e.1 ≠ b := by
        have hp := List.pairwise_iff_getElem.1 h.apart
        obtain ⟨hjl, hje⟩ := List.getElem?_eq_some_iff.1 hj
        obtain ⟨_, hke⟩ := List.getElem?_eq_some_iff.1 he
        rcases Nat.lt_or_gt_of_ne hkj with hlt | hlt
        · have := hp k j hk hjl hlt
          rw [hke, hje] at this
          exact fun x => this x.symm
        · have := hp j k hjl hk hlt
          rw [hke, hje] at this
          exact this
      exact ⟨(Below.heap_setCell w _ v e.1 hne).trans (h.own e hm').1, (h.own e hm').2⟩
  · have : ∀ (M : List Ent) (k : Nat), M[k]? = some (b, cs, t) → M.Pairwise (fun a b => a.1 ≠ b.1) → (M.set k (b, cs.set i v, t)).Pairwise (fun a b => a.1 ≠ b.1) := by
      intro M
      induction M with
      | nil => intro k hk _; simp at hk
      | cons x M ih =>
        intro k hk hp
        rw [List.pairwise_cons] at hp
        cases k with
        | zero =>
          simp only [List.getElem?_cons_zero, Option.some.injEq] at hk
          subst hk
          simp only [List.set_cons_zero]
          exact List.pairwise_cons.2 hp
        | succ k =>
          simp only [List.getElem?_cons_succ] at hk
          simp only [List.set_cons_succ]
          refine List.pairwise_cons.2 ⟨?_, ih k hk hp.2⟩
          intro e hme
          rcases List.mem_iff_getElem?.1 hme with ⟨j, hj⟩
          rw [List.getElem?_set] at hj
          by_cases hkj : k = j
          · subst hkj
            have hk' : k < M.length := (List.getElem?_eq_some_iff.1 hk).1
            simp only [if_true, hk'] at hj
            injection hj with hj
            subst hj
            exact (hp.1 _ (List.mem_of_getElem? hk) : x.1 ≠ b)
          · rw [if_neg hkj] at hj
            exact hp.1 _ (List.mem_of_getElem? hj)
    exact this L k he h.apart

theorem St.sub (h : St w0 w L) {M : List Ent} (hs : List.Sublist M L) : St w0 w M :=
  ⟨h.below, fun e he => h.own e (hs.subset he), h.apart.sublist hs⟩
end

/-! ### regions that draw their order -/
theorem cell_stays {w w' : World} (hb : Below w.heap.size w w') {b p : Nat} {v : Value} (h : w.cell? ⟨b, p, none⟩ = some v) : w'.cell? ⟨b, p, none⟩ = some v :=
  (hb.cell (p := ⟨b, p, none⟩) (World.block_lt_of_cell? w ⟨b, p, none⟩ h)).trans h

/-- A world that has grown out of w (what was there is as it was), and of which F holds. -/
structure Cls (w : World) (F : World → Prop) where
  W : World
  bel : Below w.heap.size w W
  has : F W

/-- what holds of a world holds of every world that has grown out of it -/
def Grows (F : World → Prop) : Prop := ∀ w1 w2 : World, Below w1.heap.size w1 w2 → F w1 → F w2

/-- A region that draws its order, whose operations read, and call functions that make new memory at most: one walk in the text's order. -/
theorem wp_region_F {P : Program} {id : Nat} {Q : Exit → Act → World → Prop} {a : Act} {w : World} {l : List Oper} (F : World → Prop) (hG : Grows F) (hm : P.follows .mixedOrders = true) (hB : Region.lexB .any l.toArray = true)
    (hF : F w) (h : Nonempty (Cls w F) → (∀ x : Cls w F, F x.W) → wpQuiet P l.toArray (fun w' => ∃ x : Cls w F, w' = x.W) (fun a' => ∀ w', (∃ x : Cls w F, w' = x.W) → Q .normal a' w') l a) : (Code.region id l.toArray true).wp P Q a w :=
  wp_region_quiet (C := fun w' => ∃ x : Cls w F, w' = x.W) hm hB ⟨⟨w.drew, (Below.refl _ w).drew, hG _ _ (Below.refl _ w).drew hF⟩, rfl⟩ (by simpa using h ⟨w, Below.refl _ _, hF⟩ fun x => x.has)

theorem cls_call {P : Program} {f : FuncId} {args : Array Value} {w : World} {F : World → Prop} (hG : Grows F) {x : Cls w F} {v : Value}
    (h : Calls P f args x.W fun e w' => e = .returned v ∧ Below x.W.heap.size x.W w') : Calls P f args x.W fun e w'' => e = .returned v ∧ ∃ y : Cls w F, w'' = y.W :=
  h.mono fun _ w'' ⟨he, hb⟩ => ⟨he, ⟨w'', bel_tr x.bel hb, hG _ _ hb x.has⟩, rfl⟩

theorem cls_same {P : Program} {f : FuncId} {args : Array Value} {w : World} {F : World → Prop} {x : Cls w F} {v : Value}
    (h : Calls P f args x.W fun e w' => e = .returned v ∧ x.W = w') : Calls P f args x.W fun e w'' => e = .returned v ∧ ∃ y : Cls w F, w'' = y.W :=
  h.mono fun _ _ ⟨he, hb⟩ => ⟨he, x, hb.symm⟩

theorem grows_cell (b p : Nat) (v : Value) : Grows fun w => w.cell? ⟨b, p, none⟩ = some v := fun _ _ hb h => cell_stays hb h
theorem grows_and {F G : World → Prop} (hF : Grows F) (hG : Grows G) : Grows fun w => F w ∧ G w := fun _ _ hb h => ⟨hF _ _ hb h.1, hG _ _ hb h.2⟩
theorem grows_true : Grows fun _ => True := fun _ _ _ h => h
end Go.Proofs.YtclpglgigpjfoaaGreatDoor
namespace Go.Proofs.YtclpglgigpjfoaaGreatDoor
open Go.RowKit

/-- the cells cs lie at offset o of block b -/
def Cells (w : World) (b o : Nat) (cs : List Value) : Prop := ∀ (j : Nat) (u : Value), cs[j]? = some u → w.cell? ⟨b, o + j, none⟩ = some u

theorem Cells.stays {w w' : World} {b o : Nat} {cs : List Value} (h : Cells w b o cs) (hb : Below w.heap.size w w') : Cells w' b o cs := fun j u hj => cell_stays hb (h j u hj)

/-- a slice (address A, n elements of sz cells) that reads as the cells cs -/
def Src (w : World) (A : Option Addr) (n sz : Nat) (cs : List Value) : Prop :=
  cs.length = n * sz ∧ (∀ u ∈ cs, u.oneCell' = true) ∧ (0 < n → ∃ b o, A = some ⟨b, o, none⟩ ∧ Cells w b o cs)

theorem Src.stays {w w' : World} {A : Option Addr} {n sz : Nat} {cs : List Value} (h : Src w A n sz cs) (hb : Below w.heap.size w w') : Src w' A n sz cs :=
  ⟨h.1, h.2.1, fun hn => by obtain ⟨b, o, hA, hc⟩ := h.2.2 hn; exact ⟨b, o, hA, hc.stays hb⟩⟩

theorem Src.nil (w : World) (A : Option Addr) (sz : Nat) : Src w A 0 sz [] := ⟨by simp, by simp, fun h => absurd h (by omega)⟩

theorem addr_add (b o j : Nat) : (⟨b, o, none⟩ : Addr).add j = ⟨b, o + j, none⟩ := by unfold Addr.add; split <;> simp_all

section
variable {P : Program} (w : World)

theorem run_app (base : Nat) (t ty e : TypeId) (i : TypeInfo) (z : Value) (size bytes : Nat) (ht : P.underlying t = some (.slice e)) (hi : P.info? e = some i) (hz : i.zero = some z)
    (hsize : i.size = size) (hby : i.bytes = bytes) (hzs : z.cells.size = size) (hsz : 0 < size)
    (v : Value) (n : Nat) (xs : List Value) (hown : w.ownsRow base e size v n xs) (A : Option Addr) (m c : Nat) (news : List Value) (hs : Src w A m size news)
    (h63 : n + m ≤ maxLen) (hbytes : (n + m) * bytes ≤ 140737488355328) (hbase : base ≤ w.heap.size) :
    ∃ v' w', (Builtin.append_ #[t, t] ty #[v, .slice A m c]).run P w = .ok v' w' ∧ w'.ownsRow base e size v' (n + m) (xs ++ news) ∧ w.grownBy w' v.ownBlock ∧
      (v'.ownBlock = v.ownBlock ∨ v'.ownBlock = some w.heap.size) := by
  obtain ⟨h1, h2, h3⟩ := hs
  cases A with
  | none =>
    have hm : m = 0 := by
      rcases Nat.eq_zero_or_pos m with h | h
      · exact h
      · obtain ⟨b, o, hA, _⟩ := h3 h; cases hA
    subst hm
    have hn : news = [] := List.eq_nil_of_length_eq_zero (by simpa using h1)
    subst hn
    refine ⟨v, w, ?_, by simpa using hown, World.grownBy.refl w _, .inl rfl⟩
    rcases hown.2 with ⟨rfl, rfl⟩ | ⟨g, cap, cur, rfl, _, _, hnc, _⟩
    · simp [Builtin.append_, run_underlying ht, sizeOf, typeInfo, hi, Builtin.lenOf, Builtin.firstCells]
    · simp [Builtin.append_, run_underlying ht, sizeOf, typeInfo, hi, Builtin.lenOf, Builtin.firstCells, hnc, storeCells]
  | some ad =>
    have hc : ∀ (j : Nat) (u : Value), news[j]? = some u → w.cell? (ad.add j) = some u := by
      intro j u hj
      rcases Nat.eq_zero_or_pos m with h | h
      · subst h
        have hn : news = [] := List.eq_nil_of_length_eq_zero (by simpa using h1)
        subst hn
        simp at hj
      · obtain ⟨b, o, hA, hcs⟩ := h3 h
        injection hA with hA
        subst hA
        rw [addr_add]
        exact hcs j u hj
    obtain ⟨v', w', hr, ho, hg, _, hl⟩ := run_append_own_at (P := P) w base t ty e i z size bytes ht hi hz hsize hby hzs hsz v n xs hown ad m c news h1 hc h2 h63 hbytes hbase
    exact ⟨v', w', hr, ho, hg, hl⟩

/-- 'append(s, x...)' where s is a row of the call's own. -/
theorem wpList_app {ops : Array Oper} {rest : List Oper} {o : Oper} {a : Act} {Q : Exit → Act → World → Prop} (hgd : o.guard = none) (s x : Operand) (t : TypeId)
    (ho : o.op = .call { callee := .builtin .append, args := #[s, x], argTypes := #[t, t] })
    (base : Nat) (e : TypeId) (i : TypeInfo) (z : Value) (size bytes : Nat) (ht : P.underlying t = some (.slice e)) (hi : P.info? e = some i) (hz : i.zero = some z)
    (hsize : i.size = size) (hby : i.bytes = bytes) (hzs : z.cells.size = size) (hsz : 0 < size)
    (v : Value) (n : Nat) (xs : List Value) (hs : a.eval s = v) (hown : w.ownsRow base e size v n xs)
    (A : Option Addr) (m c : Nat) (news : List Value) (hx : a.eval x = .slice A m c) (hsrc : Src w A m size news)
    (h63 : n + m ≤ maxLen) (hbytes : (n + m) * bytes ≤ 140737488355328) (hbase : base ≤ w.heap.size)
    (h : ∀ v' w', w'.ownsRow base e size v' (n + m) (xs ++ news) → w.grownBy w' v.ownBlock → (v'.ownBlock = v.ownBlock ∨ v'.ownBlock = some w.heap.size) → wpList P ops Q rest (a.put o.dst v') w') : wpList P ops Q (o :: rest) a w :=
  wpList_plain hgd fun _ hK => by
    obtain ⟨v', w', hrun, h2, h3, h4⟩ := run_app (P := P) w base t o.type e i z size bytes ht hi hz hsize hby hzs hsz v n xs hown A m c news hsrc h63 hbytes hbase
    unfold Oper.wp execOp
    simp only [ho, resolve, invoke, builtin, Sem.run_bind, Sem.run_pure, Result.andThen_ok, List.map_toArray, List.map_cons, List.map_nil, hs, hx, hrun]
    exact hK _ _ (h v' w' h2 h3 h4)
end

/-- a new empty row is the call's own -/
theorem ownsRow_empty (w : World) (base : Nat) (e : TypeId) (size : Nat) (h : base ≤ w.heap.size) : (w.alloc (.cells #[] e)).ownsRow base e size (.slice (some ⟨w.heap.size, 0, none⟩) 0 0) 0 [] :=
  ⟨by simp, .inr ⟨w.heap.size, 0, #[], rfl, h, heap_alloc_new w _, Nat.le_refl _, Nat.zero_le _, by simp, by simp⟩⟩

theorem ownsRow_more {w : World} {base base' : Nat} {e : TypeId} {size : Nat} {v : Value} {n : Nat} {xs : List Value} (h : w.ownsRow base e size v n xs) (hb : base' ≤ base) : w.ownsRow base' e size v n xs := by
  refine ⟨h.1, ?_⟩
  rcases h.2 with h2 | ⟨g, cap, cur, hv, hg, r⟩
  · exact .inl h2
  · exact .inr ⟨g, cap, cur, hv, by omega, r⟩

/-- an owned row is still owned where its block is as it was -/
theorem ownsRow_kept {w w' : World} {base : Nat} {e : TypeId} {size : Nat} {v : Value} {n : Nat} {xs : List Value} (h : w.ownsRow base e size v n xs) (hk : ∀ g, v.ownBlock = some g → w'.heap[g]? = w.heap[g]?) : w'.ownsRow base e size v n xs := by
  refine ⟨h.1, ?_⟩
  rcases h.2 with h2 | ⟨g, cap, cur, hv, hg, hh, r⟩
  · exact .inl h2
  · exact .inr ⟨g, cap, cur, hv, hg, by rw [hk g (by rw [hv]; rfl)]; exact hh, r⟩

theorem ownsRow_lt {w : World} {base : Nat} {e : TypeId} {size : Nat} {v : Value} {n : Nat} {xs : List Value} (h : w.ownsRow base e size v n xs) {g : Nat} (hg : v.ownBlock = some g) : base ≤ g ∧ g < w.heap.size := by
  rcases h.2 with ⟨rfl, _⟩ | ⟨g', cap, cur, rfl, hb, hh, _⟩
  · simp [Value.ownBlock] at hg
  · have : g' = g := by simpa [Value.ownBlock] using hg
    subst this
    refine ⟨hb, ?_⟩
    rcases Nat.lt_or_ge g' w.heap.size with h' | h'
    · exact h'
    · rw [Array.getElem?_eq_none h'] at hh; cases hh

theorem ownsRow_below {w w' : World} {base : Nat} {e : TypeId} {size : Nat} {v : Value} {n : Nat} {xs : List Value} (h : w.ownsRow base e size v n xs) (hb : Below w.heap.size w w') : w'.ownsRow base e size v n xs :=
  ownsRow_kept h fun g hg => hb.block g (ownsRow_lt h hg).2

/-- its form, and its cells -/
theorem ownsRow_src {w : World} {base : Nat} {e : TypeId} {size : Nat} {v : Value} {n : Nat} {xs : List Value} (h : w.ownsRow base e size v n xs) (h1 : ∀ u ∈ xs, u.oneCell' = true) :
    ∃ A c, v = .slice A n c ∧ n ≤ c ∧ c ≤ maxLen ∧ Src w A n size xs := by
  rcases h.2 with ⟨rfl, rfl⟩ | ⟨g, cap, cur, rfl, hb, hh, hn, hm, hcs, ht⟩
  · have : xs = [] := List.eq_nil_of_length_eq_zero (by simpa using h.1)
    subst this
    exact ⟨none, 0, rfl, Nat.le_refl _, Nat.zero_le _, Src.nil _ _ _⟩
  · refine ⟨_, _, rfl, hn, hm, h.1, h1, fun _ => ⟨g, 0, rfl, fun j u hj => ?_⟩⟩
    have := h.cells (g := g) rfl j u hj
    rwa [addr_add] at this

theorem grown_below {w w' : World} {row : Option Nat} (hg : w.grownBy w' row) {B : Nat} (hB : B ≤ w.heap.size) (hr : ∀ g, row = some g → B ≤ g) : Below B w w' :=
  ⟨hg.os, hg.tape, hg.output, hg.size, fun k hk => hg.block k (by omega) (fun e => by have := hr k e.symm; omega)⟩
end Go.Proofs.YtclpglgigpjfoaaGreatDoor
namespace Go.Proofs.YtclpglgigpjfoaaGreatDoor
open Go.RowKit

/-- a slice value v of elements of sz cells each reads as the list l -/
def Sl {α : Type} (R : World → Nat → Nat → α → Prop) (sz : Nat) (w : World) (v : Value) (l : List α) : Prop :=
  ∃ A c, v = .slice A l.length c ∧ l.length ≤ c ∧ c ≤ maxLen ∧ ∀ k x, l[k]? = some x → ∃ b o, A = some ⟨b, o, none⟩ ∧ R w b (o + k * sz) x

/-- a reading of cells that stays while memory grows -/
def Stays {α : Type} (R : World → Nat → Nat → α → Prop) : Prop := ∀ w w' b p x, Below w.heap.size w w' → R w b p x → R w' b p x

theorem Sl.stays {α : Type} {R : World → Nat → Nat → α → Prop} {sz : Nat} {w w' : World} {v : Value} {l : List α} (h : Sl R sz w v l) (hR : Stays R) (hb : Below w.heap.size w w') : Sl R sz w' v l := by
  obtain ⟨A, c, hv, h1, h2, h3⟩ := h
  refine ⟨A, c, hv, h1, h2, fun k x hk => ?_⟩
  obtain ⟨b, o, hA, hx⟩ := h3 k x hk
  exact ⟨b, o, hA, hR _ _ _ _ _ hb hx⟩

theorem Sl.nil {α : Type} (R : World → Nat → Nat → α → Prop) (sz : Nat) (w : World) (A : Option Addr) (c : Nat) (hc : c ≤ maxLen) : Sl R sz w (.slice A 0 c) ([] : List α) :=
  ⟨A, c, rfl, by simp, hc, by simp⟩


structure Bd where
  x : Int
  y : Int
  most : Int
structure Zone where
  n : Int
  bs : List Bd
def IntAt (w : World) (b p : Nat) (x : Int) : Prop := w.cell? ⟨b, p, none⟩ = some (.int .i64 x)
def BoolAt (w : World) (b p : Nat) (x : Bool) : Prop := w.cell? ⟨b, p, none⟩ = some (.bool x)
def BdAt (w : World) (b p : Nat) (x : Bd) : Prop :=
  w.cell? ⟨b, p, none⟩ = some (.int .i64 x.x) ∧ w.cell? ⟨b, p + 1, none⟩ = some (.int .i64 x.y) ∧ w.cell? ⟨b, p + 2, none⟩ = some (.int .i64 x.most)
theorem intAt_stays : Stays IntAt := fun _ _ _ _ _ hb h => cell_stays hb h
theorem boolAt_stays : Stays BoolAt := fun _ _ _ _ _ hb h => cell_stays hb h
theorem bdAt_stays : Stays BdAt := fun _ _ _ _ _ hb ⟨h0, h1, h2⟩ => ⟨cell_stays hb h0, cell_stays hb h1, cell_stays hb h2⟩
abbrev IsInts (w : World) (v : Value) (l : List Int) : Prop := Sl IntAt 1 w v l
abbrev IsBools (w : World) (v : Value) (l : List Bool) : Prop := Sl BoolAt 1 w v l
abbrev IsBds (w : World) (v : Value) (l : List Bd) : Prop := Sl BdAt 3 w v l
/-- a zone, a bound, by value -/
def zoneV (n : Int) (v : Value) : Value := .agg #[.int .i64 n, v]
def bdV (b : Bd) : Value := .agg #[.int .i64 b.x, .int .i64 b.y, .int .i64 b.most]

def SlAt {α : Type} (R : World → Nat → Nat → α → Prop) (sz : Nat) (w : World) (b o : Nat) (l : List α) : Prop := ∀ (k : Nat) (x : α), l[k]? = some x → R w b (o + k * sz) x

/-- the cells cs mean the list l wherever they lie, as long as what lay in w is as it was -/
def Means {α : Type} (R : World → Nat → Nat → α → Prop) (sz : Nat) (w : World) (cs : List Value) (l : List α) : Prop :=
  cs.length = l.length * sz ∧ (∀ u ∈ cs, u.oneCell' = true) ∧ ∀ (W : World) (b o : Nat), Below w.heap.size w W → Cells W b o cs → SlAt R sz W b o l

def Movable {α : Type} (R : World → Nat → Nat → α → Prop) (sz : Nat) : Prop :=
  ∀ (w : World) (b p : Nat) (x : α), R w b p x → ∃ cs : List Value, cs.length = sz ∧ (∀ u ∈ cs, u.oneCell' = true) ∧ Cells w b p cs ∧ ∀ (W : World) (b' p' : Nat), Below w.heap.size w W → Cells W b' p' cs → R W b' p' x

section
variable {α : Type} {R : World → Nat → Nat → α → Prop} {sz : Nat} {w : World}

theorem Cells.left {b o : Nat} {cs ds : List Value} (h : Cells w b o (cs ++ ds)) : Cells w b o cs := fun j u hj =>
  h j u (by rw [List.getElem?_append_left (List.getElem?_eq_some_iff.1 hj).1]; exact hj)
theorem Cells.right {b o : Nat} {cs ds : List Value} (h : Cells w b o (cs ++ ds)) : Cells w b (o + cs.length) ds := fun j u hj => by
  have := h (cs.length + j) u (by rw [List.getElem?_append_right (by omega)]; simpa using hj)
  rwa [show o + cs.length + j = o + (cs.length + j) by omega]
theorem Cells.app {b o : Nat} {cs ds : List Value} (h1 : Cells w b o cs) (h2 : Cells w b (o + cs.length) ds) : Cells w b o (cs ++ ds) := fun j u hj => by
  rcases Nat.lt_or_ge j cs.length with h | h
  · rw [List.getElem?_append_left h] at hj; exact h1 j u hj
  · rw [List.getElem?_append_right h] at hj
    have := h2 (j - cs.length) u hj
    rwa [show o + cs.length + (j - cs.length) = o + j by omega] at this

theorem Means.nil : Means R sz w [] ([] : List α) := ⟨by simp, by simp, fun _ _ _ _ _ k x h => by simp at h⟩
theorem Means.app {cs ds : List Value} {l m : List α} (h1 : Means R sz w cs l) (h2 : Means R sz w ds m) : Means R sz w (cs ++ ds) (l ++ m) := by
  refine ⟨by rw [List.length_append, h1.1, h2.1, List.length_append, Nat.add_mul], ?_, ?_⟩
  · intro u hu
    rcases List.mem_append.1 hu with h | h
    · exact h1.2.1 u h
    · exact h2.2.1 u h
  · intro W b o hb hc k x hk
    rcases Nat.lt_or_ge k l.length with h | h
    · rw [List.getElem?_append_left h] at hk
      exact h1.2.2 W b o hb hc.left k x hk
    · rw [List.getElem?_append_right h] at hk
      have := h2.2.2 W b _ hb hc.right (k - l.length) x hk
      rw [h1.1] at this
      rwa [show o + l.length * sz + (k - l.length) * sz = o + k * sz by rw [Nat.add_assoc, ← Nat.add_mul]; congr 2; omega] at this

theorem SlAt.tail {b o : Nat} {x : α} {l : List α} (h : SlAt R sz w b o (x :: l)) : SlAt R sz w b (o + sz) l := fun k y hk => by
  have := h (k + 1) y (by simpa using hk)
  rwa [show o + (k + 1) * sz = o + sz + k * sz by rw [Nat.add_mul]; omega] at this

theorem means_of_at (hM : Movable R sz) {b : Nat} : ∀ (l : List α) (o : Nat), SlAt R sz w b o l → ∃ cs, Means R sz w cs l ∧ Cells w b o cs
  | [], _, _ => ⟨[], Means.nil, fun j u h => by simp at h⟩
  | x :: l, o, h => by
    obtain ⟨cs, h1, h2, h3, h4⟩ := hM w b o x (by simpa using h 0 x rfl)
    obtain ⟨ds, hd, hdc⟩ := means_of_at hM l (o + sz) h.tail
    have hx : Means R sz w cs [x] := ⟨by simp [h1], h2, fun W b' o' hb hc k y hk => by
      cases k with
      | zero => simp at hk; subst hk; simpa using h4 W b' o' hb hc
      | succ k => simp at hk⟩
    exact ⟨cs ++ ds, hx.app hd, h3.app (by rw [h1]; exact hdc)⟩

theorem means_of_sl (hM : Movable R sz) {A : Option Addr} {n c : Nat} {l : List α} (h : Sl R sz w (.slice A n c) l) : ∃ cs, Means R sz w cs l ∧ Src w A n sz cs ∧ n = l.length := by
  obtain ⟨A', c', hv, h1, h2, h3⟩ := h
  injection hv with e1 e2 e3
  subst e1 e2 e3
  cases l with
  | nil => exact ⟨[], Means.nil, Src.nil _ _ _, rfl⟩
  | cons x l =>
    obtain ⟨b, o, hA, _⟩ := h3 0 x rfl
    subst hA
    have hat : SlAt R sz w b o (x :: l) := fun k y hk => by
      obtain ⟨b', o', hA, hR⟩ := h3 k y hk
      injection hA with hA
      injection hA with e1 e2
      subst e1 e2
      exact hR
    obtain ⟨cs, hm, hc⟩ := means_of_at hM _ o hat
    exact ⟨cs, hm, ⟨hm.1, hm.2.1, fun _ => ⟨b, o, rfl, hc⟩⟩, rfl⟩

theorem sl_of_means {W : World} {base e : Nat} {v : Value} {cs : List Value} {l : List α} (hm : Means R sz w cs l) (hb : Below w.heap.size w W) (ho : W.ownsRow base e sz v l.length cs) : Sl R sz W v l := by
  obtain ⟨A, c, rfl, h1, h2, h3⟩ := ownsRow_src ho hm.2.1
  refine ⟨A, c, rfl, h1, h2, fun k x hk => ?_⟩
  obtain ⟨b, o, hA, hc⟩ := h3.2.2 (by have := (List.getElem?_eq_some_iff.1 hk).1; omega)
  exact ⟨b, o, hA, hm.2.2 W b o hb hc k x hk⟩

/-- what a list means it means in every later world -/
theorem Means.later {w' : World} {cs : List Value} {l : List α} (hm : Means R sz w cs l) (hb : Below w.heap.size w w') : Means R sz w' cs l :=
  ⟨hm.1, hm.2.1, fun W b o hW hc => hm.2.2 W b o (bel_tr hb hW) hc⟩
end

theorem sl_oneCell {α : Type} {R : World → Nat → Nat → α → Prop} {sz : Nat} {w : World} {v : Value} {l : List α} (h : Sl R sz w v l) : v.oneCell' = true := by
  obtain ⟨A, c, rfl, _⟩ := h; rfl


theorem bdAt_movable : Movable BdAt 3 := fun w b p x ⟨h0, h1, h2⟩ =>
  ⟨[.int .i64 x.x, .int .i64 x.y, .int .i64 x.most], rfl, by simp [Value.oneCell'], fun j u hj => by
    match j, hj with
    | 0, hj => simp at hj; subst hj; exact h0
    | 1, hj => simp at hj; subst hj; exact h1
    | 2, hj => simp at hj; subst hj; exact h2
    | j + 3, hj => simp at hj, fun W b' p' _ hc => ⟨hc 0 _ rfl, hc 1 _ rfl, hc 2 _ rfl⟩⟩
theorem intAt_movable : Movable IntAt 1 := fun w b p x h0 =>
  ⟨[.int .i64 x], rfl, by simp [Value.oneCell'], fun j u hj => by
    match j, hj with
    | 0, hj => simp at hj; subst hj; exact h0
    | j + 1, hj => simp at hj, fun W b' p' _ hc => hc 0 _ rfl⟩

theorem blk_cell {W : World} {g t : Nat} {cs : List Value} (h : W.heap[g]? = some (.cells cs.toArray t (0, 0))) (i : Nat) : W.cell? ⟨g, i, none⟩ = cs[i]? := by simp [World.cell?, h]
theorem blk_frozen {W : World} {g t : Nat} {cs : List Value} (h : W.heap[g]? = some (.cells cs.toArray t (0, 0))) (i : Nat) : W.frozen? ⟨g, i, none⟩ = false := by simp [World.frozen?, h]
theorem blk_lt {W : World} {g t : Nat} {cs : Array Value} (h : W.heap[g]? = some (.cells cs t (0, 0))) : g < W.heap.size := by
  rcases Nat.lt_or_ge g W.heap.size with h' | h'
  · exact h'
  · rw [Array.getElem?_eq_none h'] at h; cases h
theorem blk_set {W : World} {g t : Nat} {cs : List Value} (h : W.heap[g]? = some (.cells cs.toArray t (0, 0))) (i : Nat) (v : Value) : (W.setCell ⟨g, i, none⟩ v).heap[g]? = some (.cells (cs.set i v).toArray t (0, 0)) := by
  simp [World.setCell, Array.getElem?_modify, h]
theorem bel_one (w : World) (o : Obj) : Below w.heap.size w (w.alloc o) := bel_al (Below.refl _ _) o
theorem cell_via {w w' : World} {o : Obj} (hb : Below (w.alloc o).heap.size (w.alloc o) w') {b p : Nat} {v : Value} (h : w.cell? ⟨b, p, none⟩ = some v) : w'.cell? ⟨b, p, none⟩ = some v := cell_stays hb (cell_stays (bel_one w o) h)
theorem new_cells {w w' : World} {cs : Array Value} {t : TypeId} (hb : Below (w.alloc (.cells cs t)).heap.size (w.alloc (.cells cs t)) w') : (∀ i, w'.cell? ⟨w.heap.size, i, none⟩ = cs[i]?) ∧ (∀ i, w'.frozen? ⟨w.heap.size, i, none⟩ = false) := by
  have h := (hb.block w.heap.size (by simp)).trans (heap_alloc_new w _)
  exact ⟨fun i => by simp [World.cell?, h], fun i => by simp [World.frozen?, h]⟩

theorem src_new (w : World) (cs : List Value) (t n sz : Nat) (hl : cs.length = n * sz) (h1 : ∀ u ∈ cs, u.oneCell' = true) : Src (w.alloc (.cells cs.toArray t)) (some ⟨w.heap.size, 0, none⟩) n sz cs :=
  ⟨hl, h1, fun _ => ⟨w.heap.size, 0, rfl, fun j u hj => by rw [Nat.zero_add, blk_cell (heap_alloc_new w _)]; exact hj⟩⟩
theorem slice_own {w : World} {base e sz n : Nat} {v : Value} {xs : List Value} (h : w.ownsRow base e sz v n xs) : ∃ A c, v = .slice A n c := by
  rcases h.2 with ⟨rfl, rfl⟩ | ⟨g, cap, cur, rfl, _⟩
  · exact ⟨none, 0, rfl⟩
  · exact ⟨_, _, rfl⟩

theorem take_snoc' {α : Type} {l : List α} {k : Nat} {x : α} (h : l[k]? = some x) : l.take (k + 1) = l.take k ++ [x] := by
  obtain ⟨hk, rfl⟩ := List.getElem?_eq_some_iff.1 h
  rw [List.take_succ_eq_append_getElem hk]
theorem ints_mean (w : World) (xs : List Int) : Means IntAt 1 w (xs.map (Value.int .i64)) xs := by
  refine ⟨by simp, ?_, ?_⟩
  · intro u hu
    obtain ⟨x, _, rfl⟩ := List.mem_map.1 hu
    rfl
  · intro W b o _ hc k x hk
    have := hc k (.int .i64 x) (by simp [hk])
    simpa [IntAt] using this

theorem src_new' (w : World) (cs : List Value) (t n sz k : Nat) (hk : k = w.heap.size) (hl : cs.length = n * sz) (h1 : ∀ u ∈ cs, u.oneCell' = true) : Src (w.alloc (.cells cs.toArray t)) (some ⟨k, 0, none⟩) n sz cs := by
  subst hk; exact src_new w cs t n sz hl h1

theorem len_i64 {n c : Nat} (h : n ≤ c) (hc : c ≤ maxLen) : (n : Int) ≤ 9223372036854775807 := by unfold maxLen at hc; omega
theorem own_form {w : World} {base e sz n : Nat} {v : Value} {xs : List Value} (h : w.ownsRow base e sz v n xs) (hn : 0 < n) :
    ∃ g cap spare, v = .slice (some ⟨g, 0, none⟩) n cap ∧ base ≤ g ∧ w.heap[g]? = some (.cells (xs ++ spare).toArray e (0, 0)) ∧ n ≤ cap ∧ cap ≤ maxLen := by
  rcases h.2 with ⟨_, h0⟩ | ⟨g, cap, cur, hv, hg, hh, hnc, hcm, hcs, htake⟩
  · omega
  · exact ⟨g, cap, cur.toList.drop (n * sz), hv, hg, by rw [hh, ← htake, List.take_append_drop], hnc, hcm⟩

theorem wp_gen {P : Program} {c : Code} {Q : Exit → Act → World → Prop} {a : Act} {w : World} (h : ∀ W : World, W = w → c.wp P Q a W) : c.wp P Q a w := h w rfl
/-- 'append(s, x...)' at a step of a region that draws its order; s is a row of the call's own -/
theorem step_app {P : Program} (w : World) {ops : Array Oper} {o : Oper} {a : Act} {K : Act → World → Prop} {Q : Exit → Act → World → Prop} {E : Prop} (hgd : o.guard = none) (s x : Operand) (t : TypeId)
    (ho : o.op = .call { callee := .builtin .append, args := #[s, x], argTypes := #[t, t] })
    (base : Nat) (e : TypeId) (i : TypeInfo) (z : Value) (size bytes : Nat) (ht : P.underlying t = some (.slice e)) (hi : P.info? e = some i) (hz : i.zero = some z)
    (hsize : i.size = size) (hby : i.bytes = bytes) (hzs : z.cells.size = size) (hsz : 0 < size)
    (v : Value) (n : Nat) (xs : List Value) (hs : a.eval s = v) (hown : w.ownsRow base e size v n xs)
    (A : Option Addr) (m c : Nat) (news : List Value) (hx : a.eval x = .slice A m c) (hsrc : Src w A m size news)
    (h63 : n + m ≤ maxLen) (hbytes : (n + m) * bytes ≤ 140737488355328) (hbase : base ≤ w.heap.size)
    (h : ∀ v' w', w'.ownsRow base e size v' (n + m) (xs ++ news) → w.grownBy w' v.ownBlock → (v'.ownBlock = v.ownBlock ∨ v'.ownBlock = some w.heap.size) → K (a.put o.dst v') w') :
    if Region.wanted o (yielded ops a.tmps) = true then Oper.wp P o a w K Q else E := by
  have hw : Region.wanted o (yielded ops a.tmps) = true := by simp [Region.wanted, hgd]
  rw [if_pos hw]
  obtain ⟨v', w', hrun, h2, h3, h4⟩ := run_app (P := P) w base t o.type e i z size bytes ht hi hz hsize hby hzs hsz v n xs hown A m c news hsrc h63 hbytes hbase
  unfold Oper.wp execOp
  simp only [ho, resolve, invoke, builtin, Sem.run_bind, Sem.run_pure, Result.andThen_ok, List.map_toArray, List.map_cons, List.map_nil, hs, hx, hrun]
  exact h v' w' h2 h3 h4

theorem ownsRow_empty' (w : World) (base : Nat) (e : TypeId) (size k : Nat) (hk : k = w.heap.size) (h : base ≤ k) : (w.alloc (.cells #[] e)).ownsRow base e size (.slice (some ⟨k, 0, none⟩) 0 0) 0 [] := by
  subst hk; exact ownsRow_empty w base e size h
theorem src_blk {w : World} {k t n sz : Nat} {cs : List Value} (h : w.heap[k]? = some (.cells cs.toArray t (0, 0))) (hl : cs.length = n * sz) (h1 : ∀ u ∈ cs, u.oneCell' = true) : Src w (some ⟨k, 0, none⟩) n sz cs :=
  ⟨hl, h1, fun _ => ⟨k, 0, rfl, fun j u hj => by rw [Nat.zero_add, blk_cell h]; exact hj⟩⟩
theorem heap_new' (W : World) (k : Nat) (o : Obj) (hk : k = W.heap.size) : (W.alloc o).heap[k]? = some o := by subst hk; exact heap_alloc_new W o

theorem arr_keep {W W' : World} {b : Nat} {arr : Array Value} (h : ∀ j, W.cell? ⟨b, j, none⟩ = arr[j]?) (hl : b < W.heap.size) (hb : Below W.heap.size W W') : ∀ j, W'.cell? ⟨b, j, none⟩ = arr[j]? :=
  fun j => (World.cell?_of_block (hb.block b hl)).trans (h j)
theorem cls_callB {P : Program} {f : FuncId} {args : Array Value} {w : World} {F : World → Prop} (hG : Grows F) {x : Cls w F} {v : Value}
    (h : ∀ W : World, Below w.heap.size w W → Calls P f args W fun e w' => e = .returned v ∧ Below W.heap.size W w') : Calls P f args x.W fun e w'' => e = .returned v ∧ ∃ y : Cls w F, w'' = y.W :=
  cls_call hG (h x.W x.bel)

end Go.Proofs.YtclpglgigpjfoaaGreatDoor
