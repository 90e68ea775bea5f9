/- slices.DeleteFunc at entries: those with the count 0 go. -/
import Derived.Test.YtlofjcicpkfcdaaGreatDoorLidx
import Derived.Test.YtlofjcicpkfcdaaGreatDoorLown
import Derived.Lib.SliceRun
import Derived.Shelf.Abstract
namespace Go.Proofs.YtlofjcicpkfcdaaGreatDoor
open Go.RowKit

/-- the cells of entries whose matches are these values -/
def cellsE : List (Ety × Value) → List Value
  | [] => []
  | e :: l => .int .i64 e.1.q :: e.2 :: .int .i64 e.1.n :: cellsE l
theorem cellsE_len (l : List (Ety × Value)) : (cellsE l).length = l.length * 3 := by
  induction l with
  | nil => rfl
  | cons e l ih => simp only [cellsE, List.length_cons, ih]; omega
theorem cellsE_app (l m : List (Ety × Value)) : cellsE (l ++ m) = cellsE l ++ cellsE m := by
  induction l with
  | nil => rfl
  | cons e l ih => simp only [List.cons_append, cellsE, ih]
theorem cellsE_at {l : List (Ety × Value)} {k : Nat} {e : Ety × Value} (h : l[k]? = some e) (r : List Value) :
    (cellsE l ++ r)[k * 3]? = some (.int .i64 e.1.q) ∧ (cellsE l ++ r)[k * 3 + 1]? = some e.2 ∧ (cellsE l ++ r)[k * 3 + 2]? = some (.int .i64 e.1.n) := by
  induction l generalizing k with
  | nil => simp at h
  | cons x l ih =>
    cases k with
    | zero => simp at h; subst h; simp [cellsE]
    | succ k =>
      obtain ⟨h1, h2, h3⟩ := ih (k := k) (by simpa using h)
      rw [show (k + 1) * 3 = k * 3 + 3 by omega]
      simp only [cellsE, List.cons_append]
      exact ⟨h1, h2, h3⟩
theorem cellsE_one {l : List (Ety × Value)} (h : ∀ e ∈ l, e.2.oneCell' = true) : ∀ u ∈ cellsE l, u.oneCell' = true := by
  induction l with
  | nil => simp [cellsE]
  | cons e l ih =>
    intro u hu
    simp only [cellsE, List.mem_cons] at hu
    rcases hu with rfl | rfl | rfl | hu
    · rfl
    · exact h e (List.mem_cons_self ..)
    · rfl
    · exact ih (fun x hx => h x (List.mem_cons_of_mem _ hx)) u hu
def nzE (e : Ety × Value) : Bool := e.1.n != 0
/-- an entry's match in memory of its own, apart from block g -/
def EOk (w : World) (g : Nat) (e : Ety × Value) : Prop := IsBnds w e.2 e.1.bs ∧ e.2.ownBlock ≠ some g
theorem sl_kept {w w' : World} {v : Value} {l : List Bnd} (h : IsBnds w v l) (hk : ∀ g, v.ownBlock = some g → w'.heap[g]? = w.heap[g]?) : IsBnds w' v l := by
  obtain ⟨A, c, rfl, h1, h2, h3⟩ := h
  refine ⟨A, c, rfl, h1, h2, fun k x hx => ?_⟩
  obtain ⟨b, o, rfl, c0, c1, c2, c3⟩ := h3 k x hx
  have hb := hk b rfl
  have hc : ∀ i, w'.cell? ⟨b, i, none⟩ = w.cell? ⟨b, i, none⟩ := fun i => World.cell?_of_block (a := ⟨b, i, none⟩) hb
  exact ⟨b, o, rfl, by rw [hc]; exact c0, by rw [hc]; exact c1, by rw [hc]; exact c2, by rw [hc]; exact c3⟩
theorem bnds_lt {w : World} {v : Value} {l : List Bnd} (h : IsBnds w v l) (hl : l ≠ []) : ∃ g, v.ownBlock = some g ∧ g < w.heap.size := by
  obtain ⟨A, c, rfl, h1, h2, h3⟩ := h
  cases l with
  | nil => exact absurd rfl hl
  | cons x l =>
    obtain ⟨b, o, rfl, c0, _⟩ := h3 0 x rfl
    exact ⟨b, rfl, World.block_lt_of_cell? w ⟨b, _, none⟩ c0⟩
theorem sl_kept' {w w' : World} {v : Value} {l : List Bnd} (h : IsBnds w v l) (hk : ∀ g, g < w.heap.size → v.ownBlock = some g → w'.heap[g]? = w.heap[g]?) : IsBnds w' v l := by
  by_cases hl : l = []
  · subst hl
    obtain ⟨A, c, rfl, h1, h2, -⟩ := h
    exact ⟨A, c, rfl, h1, h2, by simp⟩
  · obtain ⟨g, hg, hlt⟩ := bnds_lt h hl
    exact sl_kept h fun g' hg' => by rw [hg] at hg'; injection hg' with hg'; subst hg'; exact hk g hlt hg
theorem ents_row {w : World} {g t cap : Nat} {es : List (Ety × Value)} {r : List Value} (hg : w.heap[g]? = some (.cells (cellsE es ++ r).toArray t (0, 0))) (hc : es.length ≤ cap) (hm : cap ≤ maxLen) (he : ∀ e ∈ es, IsBnds w e.2 e.1.bs) :
    IsEnts w (.slice (some ⟨g, 0, none⟩) es.length cap) (es.map (·.1)) := by
  refine ⟨_, cap, by rw [List.length_map], by rw [List.length_map]; exact hc, hm, fun k x hx => ⟨g, 0, rfl, ?_⟩⟩
  rw [List.getElem?_map] at hx
  obtain ⟨e, h1, rfl⟩ := Option.map_eq_some_iff.1 hx
  obtain ⟨c0, c1, c2⟩ := cellsE_at h1 r
  refine ⟨e.2, he e (List.mem_of_getElem? h1), ?_, ?_, ?_⟩
  · rw [Nat.zero_add, blk_cell hg]; exact c0
  · rw [Nat.zero_add, blk_cell hg]; exact c1
  · rw [Nat.zero_add, blk_cell hg]; exact c2

theorem zeroP_any (q n : Int) (A : Option Addr) (m c : Nat) (w : World) : Calls Tryz.prog 47 #[.agg #[.int .i64 q, .slice A m c, .int .i64 n]] w fun e w' => e = .returned (.bool (n == 0)) ∧ Below w.heap.size w w' := by
  go_enter Tryz.func47, Tryz.ntmps47
  go_wp2
  go_ret
  exact ⟨by simp, (by repeat (first | exact Below.refl _ _ | assumption | refine Below.drew ?_ | refine bel_al ?_ _ | refine bel_set ?_ (by omega) _ | refine bel_tr ?_ (by assumption)))⟩
theorem enter_zero (args : Array Value) (W : World) : (callFunc 47 args).run Tryz.prog W = .ok (.enter 47 args) W := enters_of Tryz.func47 (by kernel_rfl) rfl args W

theorem zeroCells_ent (n : Nat) : (Builtin.zeroCells (Value.agg #[.int .i64 0, .slice none 0 0, .int .i64 0]).cells n).toList.length = n * 3 ∧ ∀ u ∈ (Builtin.zeroCells (Value.agg #[.int .i64 0, .slice none 0 0, .int .i64 0]).cells n).toList, u.oneCell' = true := by
  have hc : (Value.agg #[.int .i64 0, .slice none 0 0, .int .i64 0]).cells = #[.int .i64 0, .slice none 0 0, .int .i64 0] := by rfl
  rw [hc]
  unfold Builtin.zeroCells
  constructor
  · simp
  · intro u hu
    simp only [Array.toList_map, List.mem_map, Array.toList_range] at hu
    obtain ⟨i, _, rfl⟩ := hu
    have hr : i % 3 < 3 := Nat.mod_lt _ (by decide)
    generalize hm : i % 3 = r at hr
    match r, hr with
    | 0, _ => rfl
    | 1, _ => rfl
    | 2, _ => rfl
/-- 'clear(s)' on entries -/
theorem run_clear_ents (w : World) (ty : TypeId) (g o n c : Nat) (hn : 0 < n) {cur : Array Value} (hg : w.heap[g]? = some (.cells cur 45 (0, 0))) (hl : o + n * 3 ≤ cur.size) :
    ∃ Z : List Value, Z.length = n * 3 ∧ (Builtin.clear_ #[22] ty #[.slice (some ⟨g, o, none⟩) n c]).run Tryz.prog w = .ok (.tuple #[]) (w.setCells g o Z) := by
  have hv := Tryz.zeroValue45
  obtain ⟨hz, h1⟩ := zeroCells_ent n
  have hst := run_storeCells_cells (P := Tryz.prog) g o (Builtin.zeroCells (Value.agg #[.int .i64 0, .slice none 0 0, .int .i64 0]).cells n).toList 0 w (fun j hj => by
      rw [hz] at hj
      have : j + o < cur.size := by omega
      simp [World.cell?, hg]
      omega) (fun j hj => by simp [World.frozen?, hg]) h1
  simp only [Nat.add_zero] at hst
  refine ⟨_, hz, ?_⟩
  obtain ⟨m, rfl⟩ : ∃ m, n = m + 1 := ⟨n - 1, by omega⟩
  simp only [Builtin.clear_, List.getElem?_toArray, List.getElem?_cons_zero, Sem.run_bind, Sem.run_pure, Result.andThen_ok, run_underlying Tryz.underlying22, hv, hst]
theorem setCells_row {w : World} {g t : Nat} : ∀ (Z : List Value) (o : Nat) (cur : List Value) (w : World), w.heap[g]? = some (.cells cur.toArray t (0, 0)) → ∃ cur' : List Value, (w.setCells g o Z).heap[g]? = some (.cells cur'.toArray t (0, 0)) ∧ cur'.length = cur.length ∧ cur'.take o = cur.take o
  | [], o, cur, w, h => ⟨cur, h, rfl, rfl⟩
  | z :: Z, o, cur, w, h => by
    obtain ⟨cur', h1, h2, h3⟩ := setCells_row (w := w) Z (o + 1) (cur.set o z) (w.setCell ⟨g, o, none⟩ z) (blk_set h o z)
    refine ⟨cur', h1, by rw [h2, List.length_set], ?_⟩
    have := congrArg (List.take o) h3
    rw [List.take_take, List.take_take, Nat.min_eq_left (by omega)] at this
    rw [this, List.take_set_of_le (Nat.le_refl _)]
theorem setCells_grown (g : Nat) : ∀ (Z : List Value) (o : Nat) (w : World), w.grownBy (w.setCells g o Z) (some g)
  | [], _, w => World.grownBy.refl w _
  | z :: Z, o, w => by
    have h1 : w.grownBy (w.setCell ⟨g, o, none⟩ z) (some g) := ⟨rfl, rfl, rfl, by simp, fun k hk hne => Below.heap_setCell w _ z k (by intro e; exact hne (by rw [e]))⟩
    have h2 := setCells_grown g Z (o + 1) (w.setCell ⟨g, o, none⟩ z)
    exact ⟨h2.os.trans h1.os, h2.tape.trans h1.tape, h2.output.trans h1.output, Nat.le_trans h1.size h2.size, fun k hk hne => (h2.block k (Nat.lt_of_lt_of_le hk h1.size) hne).trans (h1.block k hk hne)⟩
theorem grown_tr {a b c : World} {r : Option Nat} (h : a.grownBy b r) (k : b.grownBy c r) : a.grownBy c r :=
  ⟨k.os.trans h.os, k.tape.trans h.tape, k.output.trans h.output, Nat.le_trans h.size k.size, fun i hi hne => (k.block i (Nat.lt_of_lt_of_le hi h.size) hne).trans (h.block i hi hne)⟩
theorem below_grown {a b : World} (h : Below a.heap.size a b) (r : Option Nat) : a.grownBy b r := ⟨h.os, h.tape, h.output, h.size, fun i hi _ => h.block i hi⟩
theorem set_grown (w : World) (g o : Nat) (v : Value) : w.grownBy (w.setCell ⟨g, o, none⟩ v) (some g) := setCells_grown g [v] o w

theorem first_zero {es : List (Ety × Value)} (h : (es.map (·.1)).any (fun x => x.n == 0) = true) : ∃ (k : Nat) (e : Ety × Value), es[k]? = some e ∧ nzE e = false ∧ ∀ (j : Nat) (y : Ety × Value), es[j]? = some y → j < k → nzE y = true := by
  induction es with
  | nil => simp at h
  | cons x es ih =>
    by_cases hx : nzE x = false
    · exact ⟨0, x, rfl, hx, fun j y _ hj => absurd hj (by omega)⟩
    · have hx' : nzE x = true := by simpa using hx
      have hx2 : ¬ x.1.n = 0 := by simpa [nzE] using hx'
      obtain ⟨k, e, h1, h2, h3⟩ := ih (by simpa [hx2] using h)
      refine ⟨k + 1, e, by simpa using h1, h2, fun j y hj hk => ?_⟩
      cases j with
      | zero => simp at hj; subst hj; exact hx'
      | succ j => exact h3 j y (by simpa using hj) (by omega)
theorem fil_zero {es : List (Ety × Value)} {J : Nat} {e : Ety × Value} (h : es[J]? = some e) (hz : nzE e = false) : (es.take (J + 1)).filter nzE = (es.take J).filter nzE := by
  rw [take_snoc' h, List.filter_append, List.filter_cons_of_neg (by simp [hz])]; simp
theorem fil_pos {es : List (Ety × Value)} {J : Nat} {e : Ety × Value} (h : es[J]? = some e) (hz : nzE e = true) : (es.take (J + 1)).filter nzE = (es.take J).filter nzE ++ [e] := by
  rw [take_snoc' h, List.filter_append, List.filter_cons_of_pos (by simp [hz])]; simp
theorem set3_take {cur : List Value} {k : Nat} {a b c : Value} (h : k * 3 + 2 < cur.length) : (((cur.set (k * 3) a).set (k * 3 + 1) b).set (k * 3 + 2) c).take ((k + 1) * 3) = cur.take (k * 3) ++ [a, b, c] := by
  apply List.ext_getElem?
  intro i
  rw [List.getElem?_take]
  by_cases hi : i < k * 3
  · rw [if_pos (by omega), List.getElem?_set_ne (by omega), List.getElem?_set_ne (by omega), List.getElem?_set_ne (by omega), List.getElem?_append_left (by rw [List.length_take]; omega), List.getElem?_take_of_lt hi]
  · rw [List.getElem?_append_right (by rw [List.length_take]; omega), List.length_take, Nat.min_eq_left (by omega)]
    by_cases h0 : i = k * 3
    · subst h0
      rw [if_pos (by omega), List.getElem?_set_ne (by omega), List.getElem?_set_ne (by omega), List.getElem?_set_self (by omega)]; simp
    · by_cases h1 : i = k * 3 + 1
      · subst h1
        rw [if_pos (by omega), List.getElem?_set_ne (by omega), List.getElem?_set_self (by rw [List.length_set]; omega)]; simp
      · by_cases h2 : i = k * 3 + 2
        · subst h2
          rw [if_pos (by omega), List.getElem?_set_self (by rw [List.length_set, List.length_set]; omega)]; simp
        · rw [if_neg (by omega), List.getElem?_eq_none (by simp; omega)]
theorem set3_drop {cur : List Value} {k m : Nat} {a b c : Value} (h : k * 3 + 2 < m) : (((cur.set (k * 3) a).set (k * 3 + 1) b).set (k * 3 + 2) c).drop m = cur.drop m := by
  rw [List.drop_set_of_lt (by omega), List.drop_set_of_lt (by omega), List.drop_set_of_lt (by omega)]

set_option maxRecDepth 100000 in
set_option maxHeartbeats 2000000 in
theorem deleteEnts_any (es : List (Ety × Value)) (g cap : Nat) (spare : List Value) (w : World) (hg : w.heap[g]? = some (.cells (cellsE es ++ spare).toArray 45 (0, 0))) (hc : es.length ≤ cap) (hm : cap ≤ maxLen) (hcs : (cellsE es ++ spare).length = cap * 3) (he : ∀ e ∈ es, EOk w g e) :
    Calls Tryz.prog 46 #[.slice (some ⟨g, 0, none⟩) es.length cap, .func (.func 47) #[] #[]] w fun e W => ∃ spare', e = .returned (.slice (some ⟨g, 0, none⟩) (es.filter nzE).length cap) ∧ W.heap[g]? = some (.cells (cellsE (es.filter nzE) ++ spare').toArray 45 (0, 0)) ∧ (cellsE (es.filter nzE) ++ spare').length = cap * 3 ∧ w.grownBy W (some g) := by
  have hn := len_i64 hc hm
  have hix := indexEnts_any 47 [] (fun x => x.n == 0) (es.map (·.1)) _ w (ents_row hg hc hm fun e h => (he e h).1) enter_zero (fun W x u hW hx hu => by
    obtain ⟨A, c, rfl, -⟩ := hu
    exact zeroP_any x.q x.n A _ c W)
  have HIX := Lib.hid hix
  have HG := Lib.hid hg
  have HE := Lib.hid he
  have HCS := Lib.hid hcs
  clear hix hg he hcs
  by_cases hz : (es.map (·.1)).any (fun x => x.n == 0) = true
  case neg =>
    have hf : firstI (fun x => x.n == 0) (es.map (·.1)) = -1 := by unfold firstI; rw [if_neg hz]
    have hfil : es.filter nzE = es := by
      rw [List.filter_eq_self]
      intro e hem
      have := hz
      simp only [Bool.not_eq_true, List.any_eq_false, List.mem_map] at this
      have := this e.1 ⟨e, hem, rfl⟩
      simpa [nzE] using this
    rw [hfil]
    have HF := Lib.hid hf
    clear hf hz hfil
    go_enter Tryz.func46, Tryz.ntmps46
    go_wp2_with (go_at_call 58; refine HIX.out.mono ?_; rw [HF.out]; rintro e w1 ⟨rfl, hb1⟩)
    go_ret
    exact ⟨spare, rfl, (hb1.block g (blk_lt HG.out)).trans HG.out, HCS.out, below_grown hb1 _⟩
  obtain ⟨F0, e0, he0, hez, hpre⟩ := first_zero hz
  have hFl : F0 < es.length := (List.getElem?_eq_some_iff.1 he0).1
  have hf : firstI (fun x => x.n == 0) (es.map (·.1)) = F0 := firstI_at (x := e0.1) (by rw [List.getElem?_map, he0]; rfl) (by simpa [nzE] using hez) (fun k y hy hk => by
    rw [List.getElem?_map] at hy
    obtain ⟨e, h1, rfl⟩ := Option.map_eq_some_iff.1 hy
    simpa [nzE] using hpre k e h1 hk)
  have HF := Lib.hid hf
  have HPRE := Lib.hid hpre
  have HE0 := Lib.hid he0
  have HEZ := Lib.hid hez
  clear hf hz hpre he0 hez
  have hFi : ¬ ((F0 : Int) = -1) := by omega
  have hFb : ((F0 : Int) == -1) = false := by rw [beq_eq_false_iff_ne]; omega
  go_enter Tryz.func46, Tryz.ntmps46
  go_wp2_with (go_at_call 58; refine HIX.out.mono ?_; rw [HF.out]; rintro e w1 ⟨rfl, hb1⟩)
  go_loopw [5, 6] (fun i j wr => ∃ (J : Nat) (cur : List Value), F0 < J ∧ J ≤ es.length ∧ i = .int .i64 (((es.take J).filter nzE).length : Nat) ∧ j = .int .i64 J ∧ Hid (wr.heap[g]? = some (.cells cur.toArray 45 (0, 0)) ∧ cur.length = cap * 3 ∧ ((es.take J).filter nzE).length < J ∧ cur.take (((es.take J).filter nzE).length * 3) = cellsE ((es.take J).filter nzE) ∧ cur.drop (J * 3) = (cellsE es ++ spare).drop (J * 3) ∧ w.grownBy wr (some g))) (fun _ j _ => es.length - (intOf j).toNat)
  case atStart =>
    have e1 : (es.take (F0 + 1)).filter nzE = es.take F0 := by
      rw [fil_zero HE0.out HEZ.out, List.filter_eq_self]
      intro e hem
      obtain ⟨j, hj⟩ := List.mem_iff_getElem?.1 hem
      have hjl := (List.getElem?_eq_some_iff.1 hj).1
      rw [List.length_take] at hjl
      rw [List.getElem?_take_of_lt (by omega)] at hj
      exact HPRE.out j e hj (by omega)
    have e2 : ((es.take (F0 + 1)).filter nzE).length = F0 := by rw [e1, List.length_take]; omega
    refine ⟨F0 + 1, cellsE es ++ spare, by omega, by omega, by rw [e2], by go_num, (hb1.block g (blk_lt HG.out)).trans HG.out, HCS.out, by omega, ?_, rfl, below_grown hb1 _⟩
    rw [e2, e1]
    rw [List.take_append_of_le_length (by rw [cellsE_len]; omega)]
    conv => lhs; rw [← List.take_append_drop F0 es, cellsE_app]
    rw [List.take_append_of_le_length (by rw [cellsE_len, List.length_take]; omega), List.take_of_length_le (by rw [cellsE_len, List.length_take]; omega)]
  case round =>
    obtain ⟨J, cur, hJ0, hJl, rfl, rfl, hI⟩ := hrel
    obtain ⟨K, hK⟩ : ∃ K, ((es.take J).filter nzE).length = K := ⟨_, rfl⟩
    have hI' := hI.out
    rw [hK] at hI' ⊢
    have HI := Lib.hid hI'
    have hKJ : K < J := hI'.2.2.1
    have HK := Lib.hid hK
    clear hI hI' hK
    by_cases hlt : J < es.length
    · have hJ' : (J : Int) < (es.length : Int) := by omega
      have hget := Lib.hid (List.getElem?_eq_getElem hlt)
      have heo := HE.out es[J] (List.getElem_mem hlt)
      obtain ⟨e, hx⟩ : ∃ e, e = es[J] := ⟨_, rfl⟩
      rw [← hx] at hget heo
      clear hx
      have hcd := HI.out.2.2.2.2.1
      have hrd : ∀ r, r < 3 → wr.cell? ⟨g, J * 3 + r, none⟩ = (cellsE es ++ spare)[J * 3 + r]? := fun r hr => by
        rw [blk_cell HI.out.1]
        have := congrArg (fun l : List Value => l[r]?) hcd
        simpa [List.getElem?_drop] using this
      obtain ⟨k0, k1, k2⟩ := cellsE_at hget.out spare
      have c0 := (hrd 0 (by omega)).trans k0
      have c1 := (hrd 1 (by omega)).trans k1
      have c2 := (hrd 2 (by omega)).trans k2
      rw [Nat.add_zero] at c0
      obtain ⟨A', c', hu, -⟩ := heo.1
      rw [hu] at c1
      have hgl : g < wr.heap.size := blk_lt HI.out.1
      have hnb : g ≠ wr.heap.size := by omega
      have hnb' : wr.heap.size ≠ g := by omega
      have HU := Lib.hid hu
      clear hcd hrd k0 k1 k2 hu heo
      have h3a : K * 3 < cap * 3 := by omega
      go_wp2_with fail
      refine calls_gen fun W9 e9 => ?_
      have y0 : W9.cell? ⟨wr.heap.size, 0, none⟩ = some (.int .i64 e.1.q) := by rw [e9]; go_simp
      have y1 : W9.cell? ⟨wr.heap.size, 1, none⟩ = some (.slice A' e.1.bs.length c') := by rw [e9]; go_simp
      have y2 : W9.cell? ⟨wr.heap.size, 2, none⟩ = some (.int .i64 e.1.n) := by rw [e9]; go_simp
      have hb9 : Below wr.heap.size wr W9 := by rw [e9]; exact (by repeat (first | exact Below.refl _ _ | assumption | refine Below.drew ?_ | refine bel_al ?_ _ | refine bel_set ?_ (by omega) _ | refine bel_tr ?_ (by assumption)))
      clear e9
      refine (zeroP_any e.1.q e.1.n A' _ c' W9).mono ?_
      obtain ⟨bz, hbz⟩ : ∃ b, (e.1.n == 0) = b := ⟨_, rfl⟩
      have HBZ := Lib.hid hbz
      rw [hbz]
      clear hbz
      rintro _ w2 ⟨rfl, hb2⟩
      replace y0 := cell_stays hb2 y0
      replace y1 := cell_stays hb2 y1
      replace y2 := cell_stays hb2 y2
      have hb92 := bel_tr hb9 hb2
      have hw2 : w2.heap[g]? = some (.cells cur.toArray 45 (0, 0)) := (hb92.block g hgl).trans HI.out.1
      have HW2 := Lib.hid hw2
      have gl2 : cur.length = cap * 3 := HI.out.2.1
      have z0 : ∃ u, w2.cell? ⟨g, K * 3, none⟩ = some u := ⟨cur[K * 3], by rw [blk_cell hw2, List.getElem?_eq_getElem (by omega)]⟩
      have z1 : ∃ u, w2.cell? ⟨g, K * 3 + 1, none⟩ = some u := ⟨cur[K * 3 + 1], by rw [blk_cell hw2, List.getElem?_eq_getElem (by omega)]⟩
      have z2 : ∃ u, w2.cell? ⟨g, K * 3 + 2, none⟩ = some u := ⟨cur[K * 3 + 2], by rw [blk_cell hw2, List.getElem?_eq_getElem (by omega)]⟩
      have f0 := blk_frozen hw2 (K * 3)
      have f1 := blk_frozen hw2 (K * 3 + 1)
      have f2 := blk_frozen hw2 (K * 3 + 2)
      obtain ⟨u0, z0⟩ := z0
      obtain ⟨u1, z1⟩ := z1
      obtain ⟨u2, z2⟩ := z2
      clear hw2
      cases bz with
      | true =>
        go_wp2_with fail
        go_roundw
        case rel =>
          have e1 : (es.take (J + 1)).filter nzE = (es.take J).filter nzE := fil_zero hget.out (by have := HBZ.out; simpa [nzE] using this)
          refine ⟨J + 1, cur, by omega, by omega, by rw [e1, HK.out], by go_num, HW2.out, HI.out.2.1, by rw [e1, HK.out]; omega, by rw [e1, HK.out]; exact HI.out.2.2.2.1, ?_, grown_tr HI.out.2.2.2.2.2 (below_grown hb92 _)⟩
          have := congrArg (List.drop 3) HI.out.2.2.2.2.1
          rw [List.drop_drop, List.drop_drop] at this
          rwa [show (J + 1) * 3 = J * 3 + 3 by omega]
        case measure => simp [intOf]; omega
      | false =>
        have hKe : (K : Int) < (es.length : Int) := by omega
        go_wp2_with fail
        go_roundw
        case rel =>
          have e1 : (es.take (J + 1)).filter nzE = (es.take J).filter nzE ++ [e] := fil_pos hget.out (by have := HBZ.out; simpa [nzE] using this)
          have hset := blk_set (blk_set (blk_set HW2.out (K * 3) (.int .i64 e.1.q)) (K * 3 + 1) (.slice A' e.1.bs.length c')) (K * 3 + 2) (.int .i64 e.1.n)
          refine ⟨J + 1, _, by omega, by omega, by rw [e1, List.length_append, HK.out]; go_num, by go_num, hset, by rw [List.length_set, List.length_set, List.length_set]; exact HI.out.2.1, by rw [e1, List.length_append, HK.out]; simp; omega, ?_, ?_, ?_⟩
          · rw [e1, List.length_append, HK.out, List.length_singleton, set3_take (by omega), HI.out.2.2.2.1, cellsE_app]
            simp only [cellsE, HU.out]
          · rw [set3_drop (by omega)]
            have := congrArg (List.drop 3) HI.out.2.2.2.2.1
            rw [List.drop_drop, List.drop_drop] at this
            rwa [show (J + 1) * 3 = J * 3 + 3 by omega]
          · exact grown_tr (grown_tr HI.out.2.2.2.2.2 (below_grown hb92 _)) (grown_tr (set_grown _ _ _ _) (grown_tr (set_grown _ _ _ _) (set_grown _ _ _ _)))
        case measure => simp [intOf]; omega
    · have hJ' : ¬ (J : Int) < (es.length : Int) := by omega
      obtain ⟨Z, hZl, hcl⟩ := run_clear_ents wr 0 g (K * 3) (es.length - K) (cap - K) (by omega) HI.out.1 (by simp only [List.size_toArray]; rw [HI.out.2.1]; omega)
      have hke : (K : Int) ≤ (es.length : Int) := by omega
      have hkc : (K : Int) ≤ (cap : Int) := by omega
      go_wp2_with fail
      go_ret
      have hJe : J = es.length := by omega
      have hK := HK.out
      rw [hJe, List.take_length] at hK
      obtain ⟨cur', h1, h2, h3⟩ := setCells_row (w := wr) Z (K * 3) cur wr HI.out.1
      have h4 := HI.out.2.2.2.1
      rw [hJe, List.take_length] at h4
      have h5 : cur' = cellsE (es.filter nzE) ++ cur'.drop (K * 3) := by rw [← h4, ← h3, List.take_append_drop]
      refine ⟨by rw [hK]; rfl, cur'.drop (K * 3), ?_, ?_, grown_tr HI.out.2.2.2.2.2 (setCells_grown g Z (K * 3) wr)⟩
      · rw [← h5]; exact h1
      · have h6 := congrArg List.length h5
        rw [List.length_append, h2, HI.out.2.1] at h6
        exact h6.symm
end Go.Proofs.YtlofjcicpkfcdaaGreatDoor
