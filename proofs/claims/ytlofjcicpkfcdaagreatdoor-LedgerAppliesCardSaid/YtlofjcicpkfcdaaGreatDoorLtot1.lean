/- What ledger.total keeps in its rounds: plain laws. -/
import Derived.Test.YtlofjcicpkfcdaaGreatDoorLsort
import Derived.Test.YtlofjcicpkfcdaaGreatDoorLkey2
import Derived.Maps.OwnSet
namespace Go.Proofs.YtlofjcicpkfcdaaGreatDoor
open Go.RowKit

theorem at_app {P : Program} (w : World) {o : Oper} {a : Act} {K : Act → World → Prop} {Q : Exit → Act → World → Prop} (s x : Operand) (t : TypeId)
    (ho : o.op = .call { callee := .builtin .append, args := #[s, x], argTypes := #[t, t] })
    (base : Nat) (e : TypeId) (i : TypeInfo) (z : Value) (size bytes : Nat) (ht : P.underlying t = some (.slice e)) (hi : P.info? e = some i) (hz : i.zero = some z)
    (hsize : i.size = size) (hby : i.bytes = bytes) (hzs : z.cells.size = size) (hsz : 0 < size)
    (v : Value) (n : Nat) (xs : List Value) (hs : a.eval s = v) (hown : w.ownsRow base e size v n xs)
    (A : Option Addr) (m c : Nat) (news : List Value) (hx : a.eval x = .slice A m c) (hsrc : Src w A m size news)
    (h63 : n + m ≤ maxLen) (hbytes : (n + m) * bytes ≤ 140737488355328) (hbase : base ≤ w.heap.size)
    (h : ∀ v' w', w'.ownsRow base e size v' (n + m) (xs ++ news) → w.grownBy w' v.ownBlock → (v'.ownBlock = v.ownBlock ∨ v'.ownBlock = some w.heap.size) → K (a.put o.dst v') w') :
    Oper.wp P o a w K Q := by
  obtain ⟨v', w', hrun, h2, h3, h4⟩ := run_app (P := P) w base t o.type e i z size bytes ht hi hz hsize hby hzs hsz v n xs hown A m c news hsrc h63 hbytes hbase
  unfold Oper.wp execOp
  simp only [ho, resolve, invoke, builtin, Sem.run_bind, Sem.run_pure, Result.andThen_ok, List.map_toArray, List.map_cons, List.map_nil, hs, hx, hrun]
  exact h v' w' h2 h3 h4

/-- an entry that the checks have let pass -/
def FitE (x : Ety) : Prop := subjE x.q x.bs = 0 ∧ -1099511627776 ≤ x.n ∧ x.n ≤ 1099511627776
theorem scan_ok {l : List Bnd} {p : Option Bnd} (h : scanE bndE p l = 0) : ∀ b ∈ l, bndOk b = true := by
  induction l generalizing p with
  | nil => simp
  | cons x l ih =>
    simp only [scanE] at h
    by_cases h0 : bndE p x = 0
    · rw [if_pos h0] at h
      intro b hb
      rcases List.mem_cons.1 hb with rfl | hb
      · unfold bndE at h0
        by_cases h1 : bndOk b = false
        · rw [if_pos h1] at h0; exact absurd h0 (by decide)
        · simpa using h1
      · exact ih h b hb
    · rw [if_neg h0] at h; exact absurd h h0
theorem fit_parts {x : Ety} (h : FitE x) : qOk x.q = true ∧ (∀ b ∈ x.bs, bndOk b = true) ∧ x.bs.length ≤ 4096 := by
  have h1 := h.1
  unfold subjE at h1
  by_cases hq : qOk x.q = false
  · rw [if_pos hq] at h1; exact absurd h1 (by decide)
  · rw [if_neg hq] at h1
    refine ⟨by simpa using hq, ?_⟩
    unfold matErr at h1
    split at h1
    · exact absurd h1 (by decide)
    · split at h1
      · exact absurd h1 (by decide)
      · exact ⟨scan_ok h1, by omega⟩
abbrev DW := DataW Unit
def kl (x : Ety) : Lit := .string (keyT x.q x.bs)
theorem kl_eq {x y : Ety} : kl x = kl y ↔ x.q = y.q ∧ x.bs = y.bs := by
  unfold kl
  constructor
  · intro h; injection h with h; exact keyT_inj h
  · rintro ⟨h1, h2⟩; rw [h1, h2]
structure MapIs (D : DW) (es : List (Ety × Value)) : Prop where
  isMap : Maps.IsMap D
  hit : ∀ (i : Nat) (e : Ety × Value), es[i]? = some e → Maps.has D (kl e.1) = true ∧ ∀ z, D.atKey (kl e.1) z = .lit (.int .i64 i)
  miss : ∀ x : Ety, Maps.has D (kl x) = true → ∃ (i : Nat) (e : Ety × Value), es[i]? = some e ∧ kl e.1 = kl x
theorem MapIs.nil : MapIs (.map []) [] := ⟨⟨_, rfl⟩, by simp, fun x h => by simp [Maps.has] at h⟩
theorem MapIs.app {D : DW} {es : List (Ety × Value)} (h : MapIs D es) {e : Ety × Value} (hno : Maps.has D (kl e.1) = false) : MapIs (D.put (kl e.1) (.lit (.int .i64 es.length))) (es ++ [e]) := by
  have hk : WideAt.IsKeyLit (kl e.1) := by unfold kl; trivial
  refine ⟨h.isMap.put _ _, fun i y hy => ?_, fun x hx => ?_⟩
  · rcases Nat.lt_or_ge i es.length with hi | hi
    · rw [List.getElem?_append_left hi] at hy
      have hh := h.hit i y hy
      have hne : kl y.1 ≠ kl e.1 := fun he => by rw [he, hno] at hh; exact absurd hh.1 (by decide)
      rw [Maps.has_put_other hne]
      exact ⟨hh.1, fun z => by rw [Maps.atKey_put_other hne]; exact hh.2 z⟩
    · rw [List.getElem?_append_right hi] at hy
      have hi0 : i = es.length := by
        rcases Nat.eq_or_lt_of_le hi with h1 | h1
        · exact h1.symm
        · rw [List.getElem?_eq_none (by simp; omega)] at hy; cases hy
      subst hi0
      simp at hy
      subst hy
      exact ⟨Maps.has_put_same h.isMap hk _, fun z => Maps.atKey_put_same h.isMap hk _ z⟩
  · by_cases hx' : kl x = kl e.1
    · exact ⟨es.length, e, by simp, hx'.symm⟩
    · rw [Maps.has_put_other hx'] at hx
      obtain ⟨i, y, h1, h2⟩ := h.miss x hx
      exact ⟨i, y, by rw [List.getElem?_append_left (List.getElem?_eq_some_iff.1 h1).1]; exact h1, h2⟩
theorem MapIs.set {D : DW} {es : List (Ety × Value)} (h : MapIs D es) {i : Nat} {e e' : Ety × Value} (hi : es[i]? = some e) (hk : kl e'.1 = kl e.1) : MapIs D (es.set i e') := by
  refine ⟨h.isMap, fun j y hy => ?_, fun x hx => ?_⟩
  · rw [List.getElem?_set] at hy
    split at hy
    · next hij =>
      subst hij
      split at hy
      · simp at hy; subst hy; rw [hk]; exact h.hit i e hi
      · cases hy
    · exact h.hit j y hy
  · obtain ⟨j, y, h1, h2⟩ := h.miss x hx
    by_cases hij : i = j
    · subst hij
      rw [hi] at h1; injection h1 with h1; subst h1
      exact ⟨i, e', by rw [List.getElem?_set, if_pos rfl, if_pos (List.getElem?_eq_some_iff.1 hi).1], hk.trans h2⟩
    · exact ⟨j, y, by rw [List.getElem?_set, if_neg hij]; exact h1, h2⟩

/-- the plain half -/
structure TP (done : List Ety) (es : List (Ety × Value)) : Prop where
  apart : (es.map (fun e => kl e.1)).Pairwise (fun a b => a ≠ b)
  cnts : ∀ q bs, cnt q bs (es.map (·.1)) = cnt q bs done
  few : es.length ≤ done.length
  wt : ∀ e ∈ es, -(done.length * 1099511627776 : Int) ≤ e.1.n ∧ e.1.n ≤ (done.length * 1099511627776 : Int)
theorem TP.nil : TP [] [] := ⟨List.Pairwise.nil, fun _ _ => rfl, Nat.le_refl _, by simp⟩
theorem TP.app {done : List Ety} {es : List (Ety × Value)} (h : TP done es) {x : Ety} (hx : FitE x) (u : Value) (hno : ∀ e ∈ es, kl e.1 ≠ kl x) : TP (done ++ [x]) (es ++ [(x, u)]) := by
  refine ⟨?_, fun q bs => ?_, by simp only [List.length_append, List.length_cons, List.length_nil]; have := h.few; omega, fun e he => ?_⟩
  · rw [List.map_append, List.pairwise_append]
    refine ⟨h.apart, List.pairwise_singleton _ _, fun a ha b hb => ?_⟩
    simp at hb
    subst hb
    obtain ⟨e, he, rfl⟩ := List.mem_map.1 ha
    exact hno e he
  · rw [List.map_append, cnt_app, cnt_app, h.cnts]; rfl
  · rw [List.length_append, List.length_singleton]
    have hx1 := hx.2
    rcases List.mem_append.1 he with he | he
    · have := h.wt e he; push_cast; omega
    · simp at he; subst he; push_cast; omega
theorem cnt_set {es : List Ety} {i : Nat} {e : Ety} (hi : es[i]? = some e) (d : Int) (q : Int) (bs : List Bnd) : cnt q bs (es.set i ⟨e.q, e.bs, e.n + d⟩) = cnt q bs es + cnt q bs [⟨e.q, e.bs, d⟩] := by
  induction es generalizing i with
  | nil => simp at hi
  | cons y es ih =>
    cases i with
    | zero => simp at hi; subst hi; simp only [List.set_cons_zero, cnt]; split <;> omega
    | succ i =>
      have := ih (i := i) (by simpa using hi)
      simp only [List.set_cons_succ, cnt] at *
      omega
theorem set_same {α : Type} : ∀ {l : List α} {i : Nat} {a : α}, l[i]? = some a → l.set i a = l
  | [], _, _, _ => rfl
  | x :: l, 0, a, h => by simp at h; subst h; rfl
  | x :: l, i + 1, a, h => by rw [List.set_cons_succ, set_same (by simpa using h)]
theorem TP.set {done : List Ety} {es : List (Ety × Value)} (h : TP done es) {x : Ety} (hx : FitE x) {i : Nat} {e : Ety × Value} (hi : es[i]? = some e) (hk : kl e.1 = kl x) : TP (done ++ [x]) (es.set i (⟨e.1.q, e.1.bs, e.1.n + x.n⟩, e.2)) := by
  have hm : (es.set i (⟨e.1.q, e.1.bs, e.1.n + x.n⟩, e.2)).map (·.1) = (es.map (·.1)).set i ⟨e.1.q, e.1.bs, e.1.n + x.n⟩ := by rw [List.map_set]
  have hi' : (es.map (·.1))[i]? = some e.1 := by rw [List.getElem?_map, hi]; rfl
  obtain ⟨k1, k2⟩ := kl_eq.1 hk
  refine ⟨?_, fun q bs => ?_, by rw [List.length_set, List.length_append]; have := h.few; omega, fun y hy => ?_⟩
  · have h1 : (es.map (fun e => kl e.1))[i]? = some (kl e.1) := by rw [List.getElem?_map, hi]; rfl
    have h2 : (es.set i (⟨e.1.q, e.1.bs, e.1.n + x.n⟩, e.2)).map (fun e => kl e.1) = es.map (fun e => kl e.1) := by
      rw [List.map_set]
      exact set_same h1
    rw [h2]
    exact h.apart
  · rw [hm, cnt_set hi', cnt_app, h.cnts]
    simp only [cnt, k1, k2]
  · rw [List.length_append, List.length_singleton]
    have hx1 := hx.2
    rcases List.mem_or_eq_of_mem_set hy with hy | rfl
    · have := h.wt y hy; push_cast; omega
    · have := h.wt e (List.mem_of_getElem? hi)
      push_cast
      omega

/-- the half in memory: the row of entries, their matches, the map (at block w.heap.size) -/
structure TW (w wr : World) (av : Value) (es : List (Ety × Value)) (n : Nat) (D : DW) : Prop where
  row : wr.ownsRow (w.heap.size + 1) 45 3 av es.length (cellsE es)
  bnds : ∀ e ∈ es, IsBnds wr e.2 e.1.bs ∧ ∀ g, e.2.ownBlock = some g → w.heap.size + 1 ≤ g ∧ g < wr.heap.size ∧ some g ≠ av.ownBlock
  map : wr.ownsMap Tryz.prog 9 (plainElem Tryz.prog 3) w.heap.size n D
  below : Below w.heap.size w wr
theorem TW.grow {w wr w1 : World} {av : Value} {es : List (Ety × Value)} {n : Nat} {D : DW} (h : TW w wr av es n D) (hb : Below wr.heap.size wr w1) : TW w w1 av es n D :=
  ⟨ownsRow_below h.row hb, fun e he => ⟨(h.bnds e he).1.stays bndAt_stays hb, fun g hg => by have := (h.bnds e he).2 g hg; exact ⟨this.1, Nat.lt_of_lt_of_le this.2.1 hb.size, this.2.2⟩⟩, h.map.kept (row := none) (below_grown hb none) (by simp), bel_tr h.below hb⟩
theorem TW.put {w wr w1 : World} {av : Value} {es : List (Ety × Value)} {n n' : Nat} {D D' : DW} (h : TW w wr av es n D) (hg : wr.grownBy w1 (some w.heap.size)) (hm : w1.ownsMap Tryz.prog 9 (plainElem Tryz.prog 3) w.heap.size n' D') : TW w w1 av es n' D' := by
  have hb : Below w.heap.size wr w1 := grown_below hg (by have := h.map.lt; omega) (fun g e => by injection e with e; omega)
  refine ⟨ownsRow_kept h.row fun g hv => ?_, fun e he => ⟨sl_kept (h.bnds e he).1 fun g hv => ?_, fun g hv => ?_⟩, hm, h.below.trans hb⟩
  · have := ownsRow_lt h.row hv
    exact hg.block g this.2 (by simp; omega)
  · have := (h.bnds e he).2 g hv
    exact hg.block g this.2.1 (by simp; omega)
  · have := (h.bnds e he).2 g hv
    exact ⟨this.1, Nat.lt_of_lt_of_le this.2.1 hg.size, this.2.2⟩
end Go.Proofs.YtlofjcicpkfcdaaGreatDoor
