/- The map of identities that stream.Check fills: what it reads as, the look-up and the store at the operation. -/
import Derived.Test.YtclpglgigpjfoaaGreatDoorQMev
import Derived.Test.YtclpglgigpjfoaaGreatDoorQKown
import Derived.Test.YtclpglgigpjfoaaGreatDoorQLcmp
import Derived.Maps.OwnSet
import Derived.DeepKeys4
import Derived.MapViews
namespace Go.Proofs.YtclpglgigpjfoaaGreatDoor
open Go.RowKit

theorem id_laid : laidOutB Tryz.prog = true := by kernel_rfl
theorem id_wide : (match Tryz.prog.underlying 150 with | some (.array _ _) | some (.struct _) => true | _ => false) = true := by kernel_rfl
theorem id_row : (150 : TypeId) < Tryz.prog.types.size := of_decide_eq_true (by kernel_rfl)
theorem id_two : Tryz.prog.keyTypeAt 2 150 = true := by kernel_rfl
set_option maxRecDepth 100000 in
theorem id_law : Maps.Keyed Tryz.prog 150 := Maps.Keyed.of_law (deep_law_laid id_laid (m := 2) (by omega) id_row id_two id_wide)
theorem id_deep : Tryz.prog.keyTypeAt (Tryz.prog.types.size + 1) 150 = true := by kernel_rfl
theorem id_cells : Tryz.prog.cellsOf 150 = 2 := by kernel_rfl
theorem id_cint : Tryz.prog.cellsOf 3 = 1 := by kernel_rfl
def idV (s q : Int) : Value := .agg #[.int .i64 s, .int .i64 q]
set_option maxRecDepth 100000 in
theorem id_key (w : World) {s q : Int} (h1 : (Lit.int .i64 s).wf = true) (h2 : (Lit.int .i64 q).wf = true) : ∃ l, keyOf Tryz.prog 150 (idV s q) = some l :=
  ⟨_, (keyOf_asKey (H := Unit) (enc := fun _ => ()) (w := w) (base := 0) (sp := fun _ => true) (held := true) (d := .agg [.lit (.int .i64 s), .lit (.int .i64 q)]) (ps := []) id_deep id_wide (by have hc := id_cells; simp [idV, Value.formed, Tryz.underlying150]; exact hc.symm)
    ⟨3, by have hc := id_cells; simp [idV, DataW.trod, Value.cells, Tryz.underlying150, Tryz.underlying3, id_cint, h1, h2]; exact hc.symm⟩).1⟩
def seenR : Value → Option (DataW Unit × List MemPlace)
  | .bool true => some (.lit (.bool true), [])
  | _ => none
theorem seenR_is {v : Value} {y : DataW Unit × List MemPlace} (h : seenR v = some y) : v = .bool true := by
  unfold seenR at h
  split at h
  · rfl
  · cases h
/-- block b is a map of at most n entries, with the identities of these events -/
def Seen (w : World) (b n : Nat) (pre : List Evt) : Prop := ∃ D, w.ownsMap Tryz.prog 150 seenR b n D ∧
  ∀ (x : Evt) l, keyOf Tryz.prog 150 (idV x.src x.sq) = some l → Maps.has D l = pre.any (twinE x)
theorem Seen.kept {w w' : World} {b n : Nat} {pre : List Evt} (h : Seen w b n pre) {row : Option Nat} (hg : w.grownBy w' row) (hne : some b ≠ row) : Seen w' b n pre := by
  obtain ⟨D, h1, h2⟩ := h
  exact ⟨D, h1.kept hg hne, h2⟩
theorem Seen.lt {w : World} {b n : Nat} {pre : List Evt} (h : Seen w b n pre) : b < w.heap.size := by
  obtain ⟨D, h1, _⟩ := h
  exact h1.lt
theorem Seen.below {w w' : World} {b n : Nat} {pre : List Evt} (h : Seen w b n pre) (hb : Below w.heap.size w w') : Seen w' b n pre :=
  h.kept (below_grown hb none) (by simp)
theorem seen_made (w : World) : Seen (w.alloc (.map #[] 0)) w.heap.size 0 [] :=
  ⟨_, World.ownsMap_made w _ _ _, fun _ _ _ => rfl⟩
theorem placed_wf {x : Evt} (h : placedE x = true) : (Lit.int .i64 x.src).wf = true ∧ (Lit.int .i64 x.sq).wf = true := by
  unfold placedE at h
  rw [decide_eq_true_eq] at h
  exact ⟨WalkArith.wf_i64 (by omega), WalkArith.wf_i64 (by omega)⟩
theorem zeroB (w : World) : (zeroValue 4).run Tryz.prog w = .ok (.bool false) w := by kernel_rfl
theorem Seen.look {w : World} {b n : Nat} {pre : List Evt} (h : Seen w b n pre) {x : Evt} (hx : placedE x = true) :
    (Instr.lookup 148 (.map (some b)) (idV x.src x.sq) false).run Tryz.prog w = .ok (.bool (pre.any (twinE x))) w := by
  obtain ⟨D, ⟨es, clock, hb, F, _, rfl⟩, h2⟩ := h
  obtain ⟨l, hl⟩ := id_key w (placed_wf hx).1 (placed_wf hx).2
  have h3 := h2 x l hl
  rcases Maps.fit_look false id_law Tryz.underlying148 (zeroB w) hb F hl with ⟨hrun, _, hat⟩ | ⟨e0, y, _, _, hrun, hRv, hat, _⟩
  · rw [Maps.has_false_of_atKey hat] at h3
    rw [← h3]
    exact hrun
  · rw [Maps.has_true_of_atKey hat] at h3
    rw [← h3]
    have := seenR_is hRv
    rw [this] at hrun
    exact hrun
theorem Seen.store {w : World} {b n : Nat} {pre : List Evt} (h : Seen w b n pre) {x : Evt} (hx : placedE x = true) (hn : n < maxLen) :
    ∃ w', (Instr.mapUpdate 148 (.map (some b)) (idV x.src x.sq) (.bool true)).run Tryz.prog w = .ok () w' ∧ Seen w' b (n + 1) (pre ++ [x]) ∧ w.grownBy w' (some b) := by
  obtain ⟨D, h1, h2⟩ := h
  obtain ⟨l, hl⟩ := id_key w (placed_wf hx).1 (placed_wf hx).2
  obtain ⟨w', hrun, r1, r2⟩ := h1.update id_law Tryz.underlying148 hn hl (val := .bool true) (d := .lit (.bool true)) (ps := []) rfl
  refine ⟨w', hrun, ⟨_, r1, fun y m hm => ?_⟩, r2⟩
  have h3 := h2 y m hm
  rw [List.any_append, List.any_cons, List.any_nil, Bool.or_false, ← h3]
  by_cases e : m = l
  · subst e
    have := id_law.inj hm hl
    unfold idV at this
    simp only [Value.agg.injEq, Array.mk.injEq, List.cons.injEq, Value.int.injEq, true_and, and_true] at this
    rw [Maps.has_put_same h1.isMap (id_law.key hm)]
    simp [twinE, this.1, this.2]
  · rw [Maps.has_put_other e]
    have ht : twinE y x = false := by
      unfold twinE
      rw [decide_eq_false_iff_not]
      rintro ⟨e1, e2⟩
      rw [e1, e2] at hm
      exact e (Option.some.inj (hm.symm.trans hl))
    rw [ht, Bool.or_false]
theorem wpList_lookup_seen (w : World) {ops : Array Oper} {rest : List Oper} {o : Oper} {a : Act} {Q : Exit → Act → World → Prop}
    (hg : o.guard = none) (m x : Operand) (hop : o.op = Op.lookup 148 m x false) (b n : Nat) (pre : List Evt) (y : Evt)
    (hm : a.eval m = .map (some b)) (hown : Seen w b n pre) (hx : a.eval x = idV y.src y.sq) (hy : placedE y = true)
    (hK : wpList Tryz.prog ops Q rest (a.put o.dst (.bool (pre.any (twinE y)))) w) : wpList Tryz.prog ops Q (o :: rest) a w := by
  refine wpList_plain hg fun K' hK' => ?_
  have hrun := hown.look hy
  unfold Oper.wp
  simp [execOp, hop, hm, hx, hrun, Result.andThen]
  exact hK' _ _ hK
theorem wpList_store_seen (w : World) {ops : Array Oper} {rest : List Oper} {o : Oper} {a : Act} {Q : Exit → Act → World → Prop}
    (hg : o.guard = none) (m x v : Operand) (hop : o.op = Op.mapUpdate 148 m x v) (b n : Nat) (pre : List Evt) (y : Evt)
    (hm : a.eval m = .map (some b)) (hown : Seen w b n pre) (hx : a.eval x = idV y.src y.sq) (hv : a.eval v = .bool true) (hy : placedE y = true) (hn : n < maxLen)
    (hK : ∀ w', Seen w' b (n + 1) (pre ++ [y]) → w.grownBy w' (some b) → wpList Tryz.prog ops Q rest (a.put o.dst undef) w') : wpList Tryz.prog ops Q (o :: rest) a w := by
  refine wpList_plain hg fun K' hK' => ?_
  obtain ⟨w', hrun, r1, r2⟩ := hown.store hy hn
  unfold Oper.wp
  simp [execOp, hop, hm, hx, hv, hrun, Result.andThen]
  exact hK' _ _ (hK w' r1 r2)
end Go.Proofs.YtclpglgigpjfoaaGreatDoor
namespace Go.Proofs.YtclpglgigpjfoaaGreatDoor
open Go.RowKit

theorem getLast_take {α : Type} {l : List α} {k : Nat} (hk : k ≤ l.length) : (l.take k).getLast? = prevL l k := by
  cases k with
  | zero => rfl
  | succ k =>
    have hlt : k < l.length := by omega
    rw [take_snoc' (List.getElem?_eq_getElem hlt), List.getLast?_concat]
    exact (List.getElem?_eq_getElem hlt).symm
section
variable {l : List Evt} {k : Nat} {x : Evt} {E e : Int}
theorem str_stop (hx : l[k]? = some x) (h : strFrom (l.take k) (l.drop k) = E) (he : evE (l.take k) x = e) (h0 : e ≠ 0) : e = E := by
  obtain ⟨h1, rfl⟩ := List.getElem?_eq_some_iff.1 hx
  rw [List.drop_eq_getElem_cons h1, strFrom, if_neg (by rw [he]; exact h0), he] at h
  exact h
theorem str_go (hx : l[k]? = some x) (h : strFrom (l.take k) (l.drop k) = E) (he : evE (l.take k) x = 0) : strFrom (l.take (k + 1)) (l.drop (k + 1)) = E := by
  have hx' := hx
  obtain ⟨h1, rfl⟩ := List.getElem?_eq_some_iff.1 hx
  rw [List.drop_eq_getElem_cons h1, strFrom, if_pos he] at h
  rw [take_snoc' hx']
  exact h
theorem str_end (hk : l.length ≤ k) (h : strFrom (l.take k) (l.drop k) = E) : 0 = E := by
  rw [List.drop_eq_nil_of_le hk, strFrom] at h; exact h
theorem evE_2 {pre : List Evt} (h : placedE x = false) : evE pre x = 2 := if_pos h
theorem evE_14 {p : Evt} (h : placedE x = true) (hk : k ≤ l.length) (h0 : k ≠ 0) (hp : l[k - 1]? = some p) (hr : 0 ≤ refsC (eRef p) (eRef x)) : evE (l.take k) x = 14 := by
  unfold evE
  rw [if_neg (by simp [h]), if_pos]
  unfold lateE
  rw [getLast_take hk, prevL_pos h0 hp]
  simpa using hr
theorem late_not {p : Evt} (hk : k ≤ l.length) (h0 : k ≠ 0) (hp : l[k - 1]? = some p) (hr : refsC (eRef p) (eRef x) < 0) : lateE (l.take k) x = false := by
  unfold lateE
  rw [getLast_take hk, prevL_pos h0 hp]
  simpa using hr
theorem late_first (h0 : k = 0) : lateE (l.take k) x = false := by subst h0; rfl
theorem evE_7 {pre : List Evt} (h : placedE x = true) (hl : lateE pre x = false) (ha : pre.any (twinE x) = true) : evE pre x = 7 := by
  unfold evE; rw [if_neg (by simp [h]), if_neg (by simp [hl]), if_pos ha]
theorem evE_0 {pre : List Evt} (h : placedE x = true) (hl : lateE pre x = false) (ha : pre.any (twinE x) = false) : evE pre x = 0 := by
  unfold evE; rw [if_neg (by simp [h]), if_neg (by simp [hl]), if_neg (by simp [ha])]
end

set_option maxRecDepth 100000 in
set_option maxHeartbeats 2000000 in
theorem strchk_any (l : List Evt) (v : Value) (w : World) (hl : IsEvts w v l) :
    Calls Tryz.prog 62 #[v] w fun e w' => e = .returned (.int .i64 (strErr l)) ∧ Below w.heap.size w w' := by
  unfold strErr
  obtain ⟨A, c, rfl, h1, h2, hat⟩ := hl
  have hn := len_i64 h1 h2
  have HL := Lib.hid hat
  clear hat h1 h2
  by_cases hm : 4096 < l.length
  · rw [if_pos hm]
    have hm' : (4096 : Int) < (l.length : Int) := by omega
    go_enter Tryz.func62, Tryz.ntmps62
    go_wp2_with fail
    go_ret
    exact ⟨rfl, (by repeat (first | exact Below.refl _ _ | assumption | refine Below.drew ?_ | refine bel_al ?_ _ | refine bel_set ?_ (by omega) _ | refine bel_tr ?_ (by assumption)))⟩
  rw [if_neg hm]
  have hm' : ¬ (4096 : Int) < (l.length : Int) := by omega
  have hmm := @run_makeMap Tryz.prog
  have HM := Lib.hid hm
  clear hm
  go_enter Tryz.func62, Tryz.ntmps62
  go_wp2_with fail
  go_loopw [12] (fun i wr => ∃ k : Nat, k ≤ l.length ∧ i = .int .i64 k ∧ Hid (strFrom (l.take k) (l.drop k) = strFrom [] l ∧ Seen wr w.heap.size k (l.take k)) ∧ Below w.heap.size w wr ∧ w.heap.size < wr.heap.size) (fun i _ => l.length - (intOf i).toNat)
  case atStart => exact ⟨0, Nat.zero_le _, rfl, Lib.hid ⟨rfl, seen_made w⟩, (by repeat (first | exact Below.refl _ _ | assumption | refine Below.drew ?_ | refine bel_al ?_ _ | refine bel_set ?_ (by omega) _ | refine bel_tr ?_ (by assumption))), by simp⟩
  case round =>
    clear hmm
    obtain ⟨k, hk, rfl, hi, hb, hsz⟩ := hrel
    by_cases hlt : k < l.length
    · have hk' : (k : Int) < (l.length : Int) := by omega
      obtain ⟨b, o, rfl, vv, hvv, c0, c1, c2, c3, c4⟩ := HL.out k l[k] (List.getElem?_eq_getElem hlt)
      replace c0 := cell_stays hb c0
      replace c1 := cell_stays hb c1
      replace c2 := cell_stays hb c2
      replace c3 := cell_stays hb c3
      replace c4 := cell_stays hb c4
      obtain ⟨A1, cx, rfl, -⟩ := hvv
      have hbl : b < wr.heap.size := World.block_lt_of_cell? wr ⟨b, _, none⟩ c0
      have hnb : b ≠ wr.heap.size := by omega
      have hnb' : wr.heap.size ≠ b := by omega
      have hget := Lib.hid (List.getElem?_eq_getElem hlt)
      obtain ⟨x, hx⟩ : ∃ x, x = l[k] := ⟨_, rfl⟩
      rw [← hx] at hget c0 c1 c2 c3 c4
      clear hx
      have HPL : ∀ W, Calls Tryz.prog 86 #[.agg #[.int .i64 x.src, .int .i64 x.sq, .int .i64 x.ty, .int .i64 x.tm, .slice A1 x.vals.length cx]] W fun e w' => e = .returned (.bool (placedE x)) ∧ Gr W w' := fun W => evplaced_any x A1 _ cx W _ rfl
      by_cases hp : placedE x = false
      · have HP := Lib.hid hp
        rw [hp] at HPL
        have HPL := Lib.hid HPL
        clear hp
        go_wp2_with (go_at_call 86; refine (HPL.out _).mono ?_; rintro e w3 ⟨rfl, hg3⟩)
        go_ret
        exact ⟨ret_i (str_stop hget.out hi.out.1 (evE_2 HP.out) (by decide)), bel_tr hb (bel_tr (bel_one _ _) hg3.below)⟩
      rw [Bool.not_eq_false] at hp
      rw [hp] at HPL
      have HPL := Lib.hid HPL
      have HP := Lib.hid hp
      clear hp
      by_cases hk0 : k = 0
      · have HLT : Hid (lateE (l.take k) x = false) := Lib.hid (late_first hk0)
        have d1 : decide (0 < k) = false := by simp [hk0]
        have d2 : decide ((0 : Int) < (k : Int)) = false := by simp [hk0]
        clear hk0
        go_wp2_with fail
        refine calls_gen fun W9 e9 => ?_
        have y0 : W9.cell? ⟨wr.heap.size, 0, none⟩ = some (.int .i64 x.src) := by rw [e9]; go_simp
        have y1 : W9.cell? ⟨wr.heap.size, 1, none⟩ = some (.int .i64 x.sq) := by rw [e9]; go_simp
        have y2 : W9.cell? ⟨wr.heap.size, 2, none⟩ = some (.int .i64 x.ty) := by rw [e9]; go_simp
        have y3 : W9.cell? ⟨wr.heap.size, 3, none⟩ = some (.int .i64 x.tm) := by rw [e9]; go_simp
        have y4 : W9.cell? ⟨wr.heap.size, 4, none⟩ = some (.slice A1 x.vals.length cx) := by rw [e9]; go_simp
        have hb9 : Below wr.heap.size wr W9 := by rw [e9]; exact (by repeat (first | exact Below.refl _ _ | assumption | refine Below.drew ?_ | refine bel_al ?_ _ | refine bel_set ?_ (by omega) _ | refine bel_tr ?_ (by assumption)))
        have hs9 : wr.heap.size < W9.heap.size := by rw [e9]; simp
        clear e9
        refine (HPL.out _).mono ?_
        rintro e w4 ⟨rfl, hg4⟩
        replace hg4 := hg4.below
        have hb4 := bel_tr hb9 hg4
        have hs4 : wr.heap.size < w4.heap.size := Nat.lt_of_lt_of_le hs9 hg4.size
        replace y0 := cell_stays hg4 y0
        replace y1 := cell_stays hg4 y1
        replace y2 := cell_stays hg4 y2
        replace y3 := cell_stays hg4 y3
        replace y4 := cell_stays hg4 y4
        have HSN := Lib.hid (hi.out.2.below hb4)
        have HB4 := Lib.hid (bel_tr hb hb4)
        clear hb9 hs9 hg4 hb4 c0 c1 c2 c3 c4 hnb hnb' hbl
        go_wp2_with fail
        refine wp_region_F (fun W => W.cell? ⟨wr.heap.size, 0, none⟩ = some (.int .i64 x.src) ∧ W.cell? ⟨wr.heap.size, 1, none⟩ = some (.int .i64 x.sq) ∧ W.cell? ⟨wr.heap.size, 2, none⟩ = some (.int .i64 x.ty) ∧ W.cell? ⟨wr.heap.size, 3, none⟩ = some (.int .i64 x.tm) ∧ W.cell? ⟨wr.heap.size, 4, none⟩ = some (.slice A1 x.vals.length cx)) (by repeat (first | exact grows_cell _ _ _ | exact grows_true | refine grows_and ?_ ?_)) (by kernel_rfl) (by kernel_rfl) ?hF ?_; (case hF => (first | exact ⟨‹_›, ‹_›⟩ | (go_simp; done) | (simp [*]; done) | (repeat' (first | (refine And.intro ?_ ?_) | (go_simp; done) | exact cell_stays (bel_al (Below.refl _ _) _) (by assumption) | assumption)))); intro hne hxx; have hG : Hid (Grows (fun W => W.cell? ⟨wr.heap.size, 0, none⟩ = some (.int .i64 x.src) ∧ W.cell? ⟨wr.heap.size, 1, none⟩ = some (.int .i64 x.sq) ∧ W.cell? ⟨wr.heap.size, 2, none⟩ = some (.int .i64 x.ty) ∧ W.cell? ⟨wr.heap.size, 3, none⟩ = some (.int .i64 x.tm) ∧ W.cell? ⟨wr.heap.size, 4, none⟩ = some (.slice A1 x.vals.length cx))) := (by repeat (first | exact grows_cell _ _ _ | exact grows_true | refine grows_and ?_ ?_)); (repeat (go_big_quiet_step (fail))); clear hG hxx hne; refine wpQuiet_nil ?_; rintro wq ⟨⟨w', hb', hF'⟩, rfl⟩
        obtain ⟨z0, z1, z2, z3, z4⟩ := hF'
        have HSQ := Lib.hid (HSN.out.below hb')
        have HBQ := Lib.hid (bel_tr HB4.out hb')
        have hsq : wr.heap.size < wq.heap.size := Nat.lt_of_lt_of_le hs4 hb'.size
        clear hb' y0 y1 y2 y3 y4
        by_cases htw : (l.take k).any (twinE x) = true
        · have HTW := Lib.hid htw
          clear htw
          go_wp2_with (first | (go_at_call 88; refine (evOf_raw _ _ _ _ _ _ _ _).mono ?_; rintro e w6 ⟨rfl, hg6⟩) | (at_lookup; refine wpList_lookup_seen _ rfl _ _ rfl w.heap.size k (l.take k) x rfl (HSQ.out.below hg6.below) rfl HP.out ?_; rw [HTW.out]))
          go_ret
          exact ⟨ret_i (str_stop hget.out hi.out.1 (evE_7 HP.out HLT.out HTW.out) (by decide)), bel_tr HBQ.out hg6.below⟩
        · rw [Bool.not_eq_true] at htw
          have HTW := Lib.hid htw
          clear htw
          go_wp2_with (first | (go_at_call 88; refine (evOf_raw _ _ _ _ _ _ _ _).mono ?_; rintro e w6 ⟨rfl, hg6⟩) | (at_lookup; refine wpList_lookup_seen _ rfl _ _ rfl w.heap.size k (l.take k) x rfl (HSQ.out.below hg6.below) rfl HP.out ?_; rw [HTW.out]; have HSR := Lib.hid (HSQ.out.below hg6.below); have HBR := Lib.hid (bel_tr HBQ.out hg6.below); replace z0 := cell_stays hg6.below z0; replace z1 := cell_stays hg6.below z1; replace z2 := cell_stays hg6.below z2; replace z3 := cell_stays hg6.below z3; replace z4 := cell_stays hg6.below z4; have hsr := Nat.lt_of_lt_of_le hsq hg6.below.size; clear hg6) | (at_mapUpdate; refine wpList_store_seen _ rfl _ _ _ rfl w.heap.size k (l.take k) x rfl (HSR.out.below hg6.below) rfl rfl HP.out (by unfold maxLen; omega) ?_; intro w7 hs7 hg7))
          go_roundw
          case rel =>
            refine ⟨k + 1, by omega, by go_num, Lib.hid ⟨str_go hget.out hi.out.1 (evE_0 HP.out HLT.out HTW.out), by rw [take_snoc' hget.out]; exact hs7⟩, ?_, ?_⟩
            · exact (bel_tr HBR.out hg6.below).trans (grown_below hg7 (bel_tr HBR.out hg6.below).size (fun g hg => by injection hg with hg; omega))
            · have := hg7.size; have := hg6.below.size; omega
          case measure => simp [intOf]; omega
      · have hk1 : (0 : Int) ≤ (k : Int) - 1 := by omega
        have hk2 : (k : Int) - 1 < (l.length : Int) := by omega
        have d1 : decide (0 < k) = true := by simp; omega
        have d2 : decide ((0 : Int) < (k : Int)) = true := by simp; omega
        have HK := Lib.hid hk0
        clear hk0
        obtain ⟨_, _, hbo, vp, hvp, p0, p1, p2, p3, p4⟩ := HL.out (k - 1) l[k - 1] (List.getElem?_eq_getElem (by omega))
        simp only [Option.some.injEq, Addr.mk.injEq, and_true] at hbo
        obtain ⟨rfl, rfl⟩ := hbo
        obtain ⟨A2, cp, rfl, -⟩ := hvp
        have hgetp := Lib.hid (List.getElem?_eq_getElem (l := l) (i := k - 1) (by omega))
        obtain ⟨p, hp⟩ : ∃ p, p = l[k - 1] := ⟨_, rfl⟩
        rw [← hp] at p0 p1 p2 p3 p4 hgetp
        clear hp
        obtain ⟨r, hr⟩ : ∃ r, refsC (eRef p) (eRef x) = r := ⟨_, rfl⟩
        have HR := Lib.hid hr
        have HRR : Hid (∀ W, Calls Tryz.prog 87 #[.agg #[.int .i64 p.src, .int .i64 p.sq, .int .i64 p.ty, .int .i64 p.tm, .slice A2 p.vals.length cp], .agg #[.int .i64 x.src, .int .i64 x.sq, .int .i64 x.ty, .int .i64 x.tm, .slice A1 x.vals.length cx]] W fun e w' => e = .returned (.int .i64 r) ∧ Below W.heap.size W w') := Lib.hid fun W => (evcmp_any p x A2 A1 _ cp _ cx W).mono (fun e w' ⟨h1, h2⟩ => ⟨h1.trans (by rw [hr]), h2.below⟩)
        clear hr
        go_wp2_with fail
        refine calls_gen fun W9 e9 => ?_
        have y0 : W9.cell? ⟨wr.heap.size, 0, none⟩ = some (.int .i64 x.src) := by rw [e9]; go_simp
        have y1 : W9.cell? ⟨wr.heap.size, 1, none⟩ = some (.int .i64 x.sq) := by rw [e9]; go_simp
        have y2 : W9.cell? ⟨wr.heap.size, 2, none⟩ = some (.int .i64 x.ty) := by rw [e9]; go_simp
        have y3 : W9.cell? ⟨wr.heap.size, 3, none⟩ = some (.int .i64 x.tm) := by rw [e9]; go_simp
        have y4 : W9.cell? ⟨wr.heap.size, 4, none⟩ = some (.slice A1 x.vals.length cx) := by rw [e9]; go_simp
        have hb9 : Below wr.heap.size wr W9 := by rw [e9]; exact (by repeat (first | exact Below.refl _ _ | assumption | refine Below.drew ?_ | refine bel_al ?_ _ | refine bel_set ?_ (by omega) _ | refine bel_tr ?_ (by assumption)))
        have hs9 : wr.heap.size < W9.heap.size := by rw [e9]; simp
        clear e9
        refine (HPL.out _).mono ?_
        rintro e w4 ⟨rfl, hg4⟩
        replace hg4 := hg4.below
        have hb4 := bel_tr hb9 hg4
        have hs4 : wr.heap.size < w4.heap.size := Nat.lt_of_lt_of_le hs9 hg4.size
        replace y0 := cell_stays hg4 y0
        replace y1 := cell_stays hg4 y1
        replace y2 := cell_stays hg4 y2
        replace y3 := cell_stays hg4 y3
        replace y4 := cell_stays hg4 y4
        have HSN := Lib.hid (hi.out.2.below hb4)
        have HB4 := Lib.hid (bel_tr hb hb4)
        clear hb9 hs9 hg4 hb4 c0 c1 c2 c3 c4 hnb hnb' hbl
        replace p0 := cell_stays HB4.out p0
        replace p1 := cell_stays HB4.out p1
        replace p2 := cell_stays HB4.out p2
        replace p3 := cell_stays HB4.out p3
        replace p4 := cell_stays HB4.out p4
        go_wp2_with fail
        refine wp_region_F (fun W => W.cell? ⟨wr.heap.size, 0, none⟩ = some (.int .i64 x.src) ∧ W.cell? ⟨wr.heap.size, 1, none⟩ = some (.int .i64 x.sq) ∧ W.cell? ⟨wr.heap.size, 2, none⟩ = some (.int .i64 x.ty) ∧ W.cell? ⟨wr.heap.size, 3, none⟩ = some (.int .i64 x.tm) ∧ W.cell? ⟨wr.heap.size, 4, none⟩ = some (.slice A1 x.vals.length cx) ∧ W.cell? ⟨b, o + (k - 1) * 5, none⟩ = some (.int .i64 p.src) ∧ W.cell? ⟨b, o + (k - 1) * 5 + 1, none⟩ = some (.int .i64 p.sq) ∧ W.cell? ⟨b, o + (k - 1) * 5 + 2, none⟩ = some (.int .i64 p.ty) ∧ W.cell? ⟨b, o + (k - 1) * 5 + 3, none⟩ = some (.int .i64 p.tm) ∧ W.cell? ⟨b, o + (k - 1) * 5 + 4, none⟩ = some (.slice A2 p.vals.length cp)) (by repeat (first | exact grows_cell _ _ _ | exact grows_true | refine grows_and ?_ ?_)) (by kernel_rfl) (by kernel_rfl) ?hF ?_; (case hF => (first | exact ⟨‹_›, ‹_›⟩ | (go_simp; done) | (simp [*]; done) | (repeat' (first | (refine And.intro ?_ ?_) | (go_simp; done) | exact cell_stays (bel_al (Below.refl _ _) _) (by assumption) | assumption)))); intro hne hxx; have hG : Hid (Grows (fun W => W.cell? ⟨wr.heap.size, 0, none⟩ = some (.int .i64 x.src) ∧ W.cell? ⟨wr.heap.size, 1, none⟩ = some (.int .i64 x.sq) ∧ W.cell? ⟨wr.heap.size, 2, none⟩ = some (.int .i64 x.ty) ∧ W.cell? ⟨wr.heap.size, 3, none⟩ = some (.int .i64 x.tm) ∧ W.cell? ⟨wr.heap.size, 4, none⟩ = some (.slice A1 x.vals.length cx) ∧ W.cell? ⟨b, o + (k - 1) * 5, none⟩ = some (.int .i64 p.src) ∧ W.cell? ⟨b, o + (k - 1) * 5 + 1, none⟩ = some (.int .i64 p.sq) ∧ W.cell? ⟨b, o + (k - 1) * 5 + 2, none⟩ = some (.int .i64 p.ty) ∧ W.cell? ⟨b, o + (k - 1) * 5 + 3, none⟩ = some (.int .i64 p.tm) ∧ W.cell? ⟨b, o + (k - 1) * 5 + 4, none⟩ = some (.slice A2 p.vals.length cp))) := (by repeat (first | exact grows_cell _ _ _ | exact grows_true | refine grows_and ?_ ?_)); (repeat (go_big_quiet_step ((go_at_call 87; exact cls_call hG (HRR.out _))))); clear hG hxx hne; refine wpQuiet_nil ?_; rintro wq ⟨⟨w', hb', hF'⟩, rfl⟩
        by_cases hr0 : 0 ≤ r
        · have d3 : decide (0 ≤ r) = true := by simpa using hr0
          go_wp2_with fail
          go_ret
          exact ⟨ret_i (str_stop hget.out hi.out.1 (evE_14 HP.out hk HK.out hgetp.out (by rw [HR.out]; exact hr0)) (by decide)), bel_tr HB4.out hb'⟩
        · have d3 : decide (0 ≤ r) = false := by simpa using hr0
          have HLT : Hid (lateE (l.take k) x = false) := Lib.hid (late_not hk HK.out hgetp.out (by rw [HR.out]; omega))
          clear p0 p1 p2 p3 p4
          obtain ⟨z0, z1, z2, z3, z4, -⟩ := hF'
          have HSQ := Lib.hid (HSN.out.below hb')
          have HBQ := Lib.hid (bel_tr HB4.out hb')
          have hsq : wr.heap.size < wq.heap.size := Nat.lt_of_lt_of_le hs4 hb'.size
          clear hb' y0 y1 y2 y3 y4
          by_cases htw : (l.take k).any (twinE x) = true
          · have HTW := Lib.hid htw
            clear htw
            go_wp2_with (first | (go_at_call 88; refine (evOf_raw _ _ _ _ _ _ _ _).mono ?_; rintro e w6 ⟨rfl, hg6⟩) | (at_lookup; refine wpList_lookup_seen _ rfl _ _ rfl w.heap.size k (l.take k) x rfl (HSQ.out.below hg6.below) rfl HP.out ?_; rw [HTW.out]))
            go_ret
            exact ⟨ret_i (str_stop hget.out hi.out.1 (evE_7 HP.out HLT.out HTW.out) (by decide)), bel_tr HBQ.out hg6.below⟩
          · rw [Bool.not_eq_true] at htw
            have HTW := Lib.hid htw
            clear htw
            go_wp2_with (first | (go_at_call 88; refine (evOf_raw _ _ _ _ _ _ _ _).mono ?_; rintro e w6 ⟨rfl, hg6⟩) | (at_lookup; refine wpList_lookup_seen _ rfl _ _ rfl w.heap.size k (l.take k) x rfl (HSQ.out.below hg6.below) rfl HP.out ?_; rw [HTW.out]; have HSR := Lib.hid (HSQ.out.below hg6.below); have HBR := Lib.hid (bel_tr HBQ.out hg6.below); replace z0 := cell_stays hg6.below z0; replace z1 := cell_stays hg6.below z1; replace z2 := cell_stays hg6.below z2; replace z3 := cell_stays hg6.below z3; replace z4 := cell_stays hg6.below z4; have hsr := Nat.lt_of_lt_of_le hsq hg6.below.size; clear hg6) | (at_mapUpdate; refine wpList_store_seen _ rfl _ _ _ rfl w.heap.size k (l.take k) x rfl (HSR.out.below hg6.below) rfl rfl HP.out (by unfold maxLen; omega) ?_; intro w7 hs7 hg7))
            go_roundw
            case rel =>
              refine ⟨k + 1, by omega, by go_num, Lib.hid ⟨str_go hget.out hi.out.1 (evE_0 HP.out HLT.out HTW.out), by rw [take_snoc' hget.out]; exact hs7⟩, ?_, ?_⟩
              · exact (bel_tr HBR.out hg6.below).trans (grown_below hg7 (bel_tr HBR.out hg6.below).size (fun g hg => by injection hg with hg; omega))
              · have := hg7.size; have := hg6.below.size; omega
            case measure => simp [intOf]; omega
    · have hk' : ¬ (k : Int) < (l.length : Int) := by omega
      go_wp2_with fail
      go_ret
      exact ⟨ret_i (str_end (by omega) hi.out.1), hb⟩
end Go.Proofs.YtclpglgigpjfoaaGreatDoor
namespace Go.Proofs.YtclpglgigpjfoaaGreatDoor
open Go.RowKit

/-- where the event with a Ref stands, and whether it stands there -/
def hitE (l : List Evt) (r : Bnd) : Bool := match l[lowE l r]? with
  | some e => refEq (eRef e) r
  | none => false

set_option maxRecDepth 100000 in
set_option maxHeartbeats 2000000 in
theorem bsearch_any (l : List Evt) (r : Bnd) (v : Value) (w : World) (hl : IsEvts w v l) (hlen : l.length ≤ 4096) (ha : l.Pairwise fun a b => refsC (eRef a) (eRef b) < 0) :
    Calls Tryz.prog 89 #[v, refV r, .func (.func 90) #[] #[]] w fun e w' => e = .returned (.tuple #[.int .i64 (lowE l r), .bool (hitE l r)]) ∧ Below w.heap.size w w' := by
  obtain ⟨A, c, rfl, h1, h2, hat⟩ := hl
  have hn := len_i64 h1 h2
  have HL := Lib.hid hat
  clear hat h1 h2
  have HA := Lib.hid ha
  clear ha
  obtain ⟨low, hlow⟩ : ∃ low, lowE l r = low := ⟨_, rfl⟩
  have hll : low ≤ l.length := by rw [← hlow]; exact low_le l r
  have HLOW := Lib.hid hlow
  obtain ⟨t, ht⟩ : ∃ t, hitE l r = t := ⟨_, rfl⟩
  have HT := Lib.hid ht
  unfold refV
  rw [hlow, ht]
  clear hlow ht
  go_enter Tryz.func89, Tryz.ntmps89
  go_wp2_with fail
  refine wp_gen fun w0 e0 => ?_
  have hb0 : Below w.heap.size w w0 := by rw [e0]; exact (by repeat (first | exact Below.refl _ _ | assumption | refine Below.drew ?_ | refine bel_al ?_ _ | refine bel_set ?_ (by omega) _ | refine bel_tr ?_ (by assumption)))
  have x0 : w0.cell? ⟨w.heap.size, 0, none⟩ = some (.int .i64 r.t) := by rw [e0]; go_simp
  have x1 : w0.cell? ⟨w.heap.size, 1, none⟩ = some (.int .i64 r.s) := by rw [e0]; go_simp
  have x2 : w0.cell? ⟨w.heap.size, 2, none⟩ = some (.int .i64 r.n) := by rw [e0]; go_simp
  have HX := Lib.hid (And.intro x0 (And.intro x1 x2))
  have HB0 := Lib.hid hb0
  clear e0 hb0 x0 x1 x2
  go_loopw [9, 10] (fun i j wr => ∃ a b : Nat, a ≤ low ∧ low ≤ b ∧ b ≤ l.length ∧ i = .int .i64 a ∧ j = .int .i64 b ∧ Below w0.heap.size w0 wr) (fun i j _ => (intOf j).toNat - (intOf i).toNat)
  case atStart => exact ⟨0, l.length, Nat.zero_le _, hll, Nat.le_refl _, rfl, rfl, Below.refl _ _⟩
  case round =>
    obtain ⟨p, q, hpl, hlq, hql, rfl, rfl, hb⟩ := hrel
    obtain ⟨x0, x1, x2⟩ := HX.out
    replace x0 := cell_stays hb x0
    replace x1 := cell_stays hb x1
    replace x2 := cell_stays hb x2
    by_cases hpq : p < q
    · have hpq' : (p : Int) < (q : Int) := by omega
      go_wp2_with fail
      obtain ⟨h, hh⟩ : ∃ h : Nat, h = (p + q) / 2 := ⟨_, rfl⟩
      have hhl : (h : Int) < (l.length : Int) := by omega
      have hhp : p ≤ h := by omega
      have hhq : h < q := by omega
      rw [show ((p : Int) + (q : Int)) / 2 = (h : Int) from by omega]
      clear hh
      obtain ⟨b, o, rfl, vv, hvv, c0, c1, c2, c3, c4⟩ := HL.out h l[h] (List.getElem?_eq_getElem (by omega))
      replace c0 := cell_stays (bel_tr HB0.out hb) c0
      replace c1 := cell_stays (bel_tr HB0.out hb) c1
      replace c2 := cell_stays (bel_tr HB0.out hb) c2
      replace c3 := cell_stays (bel_tr HB0.out hb) c3
      replace c4 := cell_stays (bel_tr HB0.out hb) c4
      obtain ⟨A1, cx, rfl, -⟩ := hvv
      have hget := Lib.hid (List.getElem?_eq_getElem (l := l) (i := h) (by omega))
      obtain ⟨x, hx⟩ : ∃ x, x = l[h] := ⟨_, rfl⟩
      rw [← hx] at hget c0 c1 c2 c3 c4
      clear hx
      obtain ⟨d, hd⟩ : ∃ d, refsC (eRef x) r = d := ⟨_, rfl⟩
      have HD := Lib.hid hd
      have HCM : Hid (∀ W, Calls Tryz.prog 90 #[.agg #[.int .i64 x.src, .int .i64 x.sq, .int .i64 x.ty, .int .i64 x.tm, .slice A1 x.vals.length cx], .agg #[.int .i64 r.t, .int .i64 r.s, .int .i64 r.n]] W fun e w' => e = .returned (.int .i64 d) ∧ Below W.heap.size W w') := Lib.hid fun W => (evref_any x r A1 _ cx W).mono (fun e w' ⟨h1, h2⟩ => ⟨h1.trans (by rw [hd]), h2.below⟩)
      clear hd
      refine wp_region_F (fun W => W.cell? ⟨b, o + h * 5, none⟩ = some (.int .i64 x.src) ∧ W.cell? ⟨b, o + h * 5 + 1, none⟩ = some (.int .i64 x.sq) ∧ W.cell? ⟨b, o + h * 5 + 2, none⟩ = some (.int .i64 x.ty) ∧ W.cell? ⟨b, o + h * 5 + 3, none⟩ = some (.int .i64 x.tm) ∧ W.cell? ⟨b, o + h * 5 + 4, none⟩ = some (.slice A1 x.vals.length cx) ∧ W.cell? ⟨w.heap.size, 0, none⟩ = some (.int .i64 r.t) ∧ W.cell? ⟨w.heap.size, 1, none⟩ = some (.int .i64 r.s) ∧ W.cell? ⟨w.heap.size, 2, none⟩ = some (.int .i64 r.n)) (by repeat (first | exact grows_cell _ _ _ | exact grows_true | refine grows_and ?_ ?_)) (by kernel_rfl) (by kernel_rfl) ?hF ?_; (case hF => (first | exact ⟨‹_›, ‹_›⟩ | (go_simp; done) | (simp [*]; done) | (repeat' (first | (refine And.intro ?_ ?_) | (go_simp; done) | exact cell_stays (bel_al (Below.refl _ _) _) (by assumption) | assumption)))); intro hne hxx; have hG : Hid (Grows (fun W => W.cell? ⟨b, o + h * 5, none⟩ = some (.int .i64 x.src) ∧ W.cell? ⟨b, o + h * 5 + 1, none⟩ = some (.int .i64 x.sq) ∧ W.cell? ⟨b, o + h * 5 + 2, none⟩ = some (.int .i64 x.ty) ∧ W.cell? ⟨b, o + h * 5 + 3, none⟩ = some (.int .i64 x.tm) ∧ W.cell? ⟨b, o + h * 5 + 4, none⟩ = some (.slice A1 x.vals.length cx) ∧ W.cell? ⟨w.heap.size, 0, none⟩ = some (.int .i64 r.t) ∧ W.cell? ⟨w.heap.size, 1, none⟩ = some (.int .i64 r.s) ∧ W.cell? ⟨w.heap.size, 2, none⟩ = some (.int .i64 r.n))) := (by repeat (first | exact grows_cell _ _ _ | exact grows_true | refine grows_and ?_ ?_)); (repeat (go_big_quiet_step ((go_at_call 90; exact cls_call hG (HCM.out _))))); clear hG hxx hne; refine wpQuiet_nil ?_; rintro wq ⟨⟨w', hb', hF'⟩, rfl⟩
      have hlo := low_at (r := r) HA.out hget.out
      rw [HD.out, HLOW.out] at hlo
      by_cases hd0 : d < 0
      · have hlt : h < low := hlo.1 hd0
        clear hlo
        go_wp2_with fail
        go_roundw
        case rel => exact ⟨h + 1, q, by omega, hlq, hql, by go_num, rfl, bel_tr hb hb'⟩
        case measure => simp [intOf]; omega
      · have hlt : low ≤ h := by
          rcases Nat.lt_or_ge h low with h1 | h1
          · exact absurd (hlo.2 h1) hd0
          · exact h1
        clear hlo
        go_wp2_with fail
        go_roundw
        case rel => exact ⟨p, h, hpl, hlt, by omega, rfl, rfl, bel_tr hb hb'⟩
        case measure => simp [intOf]; omega
    · have hpq' : ¬ (p : Int) < (q : Int) := by omega
      have hpe : p = low := by omega
      have hqe : p = q := by omega
      clear hpl hlq hpq hql hpq'
      subst hqe
      subst hpe
      by_cases hlt : p < l.length
      · have hlt' : (p : Int) < (l.length : Int) := by omega
        have hlt2 : decide ((p : Int) < (l.length : Int)) = true := by simpa using hlt
        obtain ⟨b, o, rfl, vv, hvv, c0, c1, c2, c3, c4⟩ := HL.out p l[p] (List.getElem?_eq_getElem (by omega))
        replace c0 := cell_stays (bel_tr HB0.out hb) c0
        replace c1 := cell_stays (bel_tr HB0.out hb) c1
        replace c2 := cell_stays (bel_tr HB0.out hb) c2
        replace c3 := cell_stays (bel_tr HB0.out hb) c3
        replace c4 := cell_stays (bel_tr HB0.out hb) c4
        obtain ⟨A1, cx, rfl, -⟩ := hvv
        have hget := Lib.hid (List.getElem?_eq_getElem (l := l) (i := p) (by omega))
        obtain ⟨x, hx⟩ : ∃ x, x = l[p] := ⟨_, rfl⟩
        rw [← hx] at hget c0 c1 c2 c3 c4
        clear hx
        obtain ⟨d, hd⟩ : ∃ d, refsC (eRef x) r = d := ⟨_, rfl⟩
        have HD := Lib.hid hd
        have HCM : Hid (∀ W, Calls Tryz.prog 90 #[.agg #[.int .i64 x.src, .int .i64 x.sq, .int .i64 x.ty, .int .i64 x.tm, .slice A1 x.vals.length cx], .agg #[.int .i64 r.t, .int .i64 r.s, .int .i64 r.n]] W fun e w' => e = .returned (.int .i64 d) ∧ Below W.heap.size W w') := Lib.hid fun W => (evref_any x r A1 _ cx W).mono (fun e w' ⟨h1, h2⟩ => ⟨h1.trans (by rw [hd]), h2.below⟩)
        clear hd
        go_wp2_with fail
        refine wp_region_F (fun W => W.cell? ⟨b, o + p * 5, none⟩ = some (.int .i64 x.src) ∧ W.cell? ⟨b, o + p * 5 + 1, none⟩ = some (.int .i64 x.sq) ∧ W.cell? ⟨b, o + p * 5 + 2, none⟩ = some (.int .i64 x.ty) ∧ W.cell? ⟨b, o + p * 5 + 3, none⟩ = some (.int .i64 x.tm) ∧ W.cell? ⟨b, o + p * 5 + 4, none⟩ = some (.slice A1 x.vals.length cx) ∧ W.cell? ⟨w.heap.size, 0, none⟩ = some (.int .i64 r.t) ∧ W.cell? ⟨w.heap.size, 1, none⟩ = some (.int .i64 r.s) ∧ W.cell? ⟨w.heap.size, 2, none⟩ = some (.int .i64 r.n)) (by repeat (first | exact grows_cell _ _ _ | exact grows_true | refine grows_and ?_ ?_)) (by kernel_rfl) (by kernel_rfl) ?hF ?_; (case hF => (first | exact ⟨‹_›, ‹_›⟩ | (go_simp; done) | (simp [*]; done) | (repeat' (first | (refine And.intro ?_ ?_) | (go_simp; done) | exact cell_stays (bel_al (Below.refl _ _) _) (by assumption) | assumption)))); intro hne hxx; have hG : Hid (Grows (fun W => W.cell? ⟨b, o + p * 5, none⟩ = some (.int .i64 x.src) ∧ W.cell? ⟨b, o + p * 5 + 1, none⟩ = some (.int .i64 x.sq) ∧ W.cell? ⟨b, o + p * 5 + 2, none⟩ = some (.int .i64 x.ty) ∧ W.cell? ⟨b, o + p * 5 + 3, none⟩ = some (.int .i64 x.tm) ∧ W.cell? ⟨b, o + p * 5 + 4, none⟩ = some (.slice A1 x.vals.length cx) ∧ W.cell? ⟨w.heap.size, 0, none⟩ = some (.int .i64 r.t) ∧ W.cell? ⟨w.heap.size, 1, none⟩ = some (.int .i64 r.s) ∧ W.cell? ⟨w.heap.size, 2, none⟩ = some (.int .i64 r.n))) := (by repeat (first | exact grows_cell _ _ _ | exact grows_true | refine grows_and ?_ ?_)); (repeat (go_big_quiet_step ((go_at_call 90; exact cls_call hG (HCM.out _))))); clear hG hxx hne; refine wpQuiet_nil ?_; rintro wq ⟨⟨w', hb', hF'⟩, rfl⟩
        go_wp2_with fail
        go_ret2
        have hte : t = (d == 0) := by
          rw [← HT.out]
          unfold hitE
          rw [HLOW.out, hget.out]
          simp only [refEq_iff, HD.out]
          exact (Bool.beq_eq_decide_eq d 0).symm
        rw [hte]
        exact ⟨rfl, bel_tr HB0.out (bel_tr hb hb')⟩
      · have hlt' : ¬ (p : Int) < (l.length : Int) := by omega
        have hlt2 : decide ((p : Int) < (l.length : Int)) = false := by simpa using hlt
        go_wp2_with fail
        refine wp_region_F (fun W => W.cell? ⟨w.heap.size, 0, none⟩ = some (.int .i64 r.t) ∧ W.cell? ⟨w.heap.size, 1, none⟩ = some (.int .i64 r.s)) (by repeat (first | exact grows_cell _ _ _ | exact grows_true | refine grows_and ?_ ?_)) (by kernel_rfl) (by kernel_rfl) ?hF ?_; (case hF => (first | exact ⟨‹_›, ‹_›⟩ | (go_simp; done) | (simp [*]; done) | (repeat' (first | (refine And.intro ?_ ?_) | (go_simp; done) | exact cell_stays (bel_al (Below.refl _ _) _) (by assumption) | assumption)))); intro hne hxx; have hG : Hid (Grows (fun W => W.cell? ⟨w.heap.size, 0, none⟩ = some (.int .i64 r.t) ∧ W.cell? ⟨w.heap.size, 1, none⟩ = some (.int .i64 r.s))) := (by repeat (first | exact grows_cell _ _ _ | exact grows_true | refine grows_and ?_ ?_)); (repeat (go_big_quiet_step (fail))); clear hG hxx hne; refine wpQuiet_nil ?_; rintro wq ⟨⟨w', hb', hF'⟩, rfl⟩
        go_wp2_with fail
        go_ret2
        have hte : t = false := by
          rw [← HT.out]
          unfold hitE
          rw [HLOW.out, List.getElem?_eq_none (by omega)]
        rw [hte]
        exact ⟨rfl, bel_tr HB0.out (bel_tr hb hb')⟩

def FindRet (w : World) (l : List Evt) (r : Bnd) (e : Ending) (W : World) : Prop := e = .returned (.tuple #[.int .i64 (lowE l r), .bool (hitE l r), .int .i64 0]) ∧ Below w.heap.size w W
/-- stream.Find at a stream without an error -/
theorem find_any (l : List Evt) (r : Bnd) (v : Value) (w : World) (hl : IsEvts w v l) (h0 : strErr l = 0) :
    Calls Tryz.prog 63 #[v, refV r] w (FindRet w l r) := by
  obtain ⟨hok, hlen⟩ := strErr_ok h0
  have HL := Lib.hid hl
  have H0 := Lib.hid h0
  have HA := Lib.hid hok.asc
  clear h0 hok
  obtain ⟨A, c, rfl, -⟩ := hl
  unfold refV
  go_enter Tryz.func63, Tryz.ntmps63
  go_wp2_with fail
  refine calls_gen fun W9 e9 => ?_
  have y0 : W9.cell? ⟨w.heap.size, 0, none⟩ = some (.int .i64 r.t) := by rw [e9]; go_simp
  have y1 : W9.cell? ⟨w.heap.size, 1, none⟩ = some (.int .i64 r.s) := by rw [e9]; go_simp
  have y2 : W9.cell? ⟨w.heap.size, 2, none⟩ = some (.int .i64 r.n) := by rw [e9]; go_simp
  have hb9 : Below w.heap.size w W9 := by rw [e9]; exact (by repeat (first | exact Below.refl _ _ | assumption | refine Below.drew ?_ | refine bel_al ?_ _ | refine bel_set ?_ (by omega) _ | refine bel_tr ?_ (by assumption)))
  clear e9
  refine (strchk_any l _ _ (HL.out.stays evtAt_stays hb9)).mono ?_
  rw [H0.out]
  rintro e w4 ⟨rfl, hb4⟩
  replace y0 := cell_stays hb4 y0
  replace y1 := cell_stays hb4 y1
  replace y2 := cell_stays hb4 y2
  have HB := Lib.hid (bel_tr hb9 hb4)
  clear hb9 hb4
  go_wp2_with fail
  refine (bsearch_any l r _ _ (HL.out.stays evtAt_stays HB.out) hlen HA.out).mono ?_
  rintro e w5 ⟨rfl, hb5⟩
  go_wp2_with fail
  go_ret3
  exact ⟨rfl, bel_tr HB.out hb5⟩
end Go.Proofs.YtclpglgigpjfoaaGreatDoor
namespace Go.Proofs.YtclpglgigpjfoaaGreatDoor
open Go.RowKit

theorem rRef_bel (s q y t : Int) (A : Option Addr) (n c : Nat) (w : World) : Calls Tryz.prog 37 #[.agg #[.int .i64 s, .int .i64 q, .int .i64 y, .int .i64 t, .slice A n c]] w fun e w' => e = .returned (.agg #[.int .i64 t, .int .i64 s, .int .i64 q]) ∧ Below w.heap.size w w' :=
  (rRef_raw s q y t A n c w).mono fun _ _ ⟨h1, h2⟩ => ⟨h1, h2.below⟩
def twinB (s1 q1 s2 q2 : Int) : Bool := decide (s1 = s2 ∧ q1 = q2)
theorem rtwin_raw (s1 q1 y1 t1 s2 q2 y2 t2 : Int) (A B : Option Addr) (n c m d : Nat) (w : World) : Calls Tryz.prog 91 #[.agg #[.int .i64 s1, .int .i64 q1, .int .i64 y1, .int .i64 t1, .slice A n c], .agg #[.int .i64 s2, .int .i64 q2, .int .i64 y2, .int .i64 t2, .slice B m d]] w fun e w' => e = .returned (.bool (twinB s1 q1 s2 q2)) ∧ Below w.heap.size w w' := by
  unfold twinB
  by_cases h1 : s1 = s2
  · subst h1
    by_cases h2 : q1 = q2
    · subst h2
      go_enter Tryz.func91, Tryz.ntmps91
      go_wp2
      go_ret
      exact ⟨by simp, (by repeat (first | exact Below.refl _ _ | assumption | refine Below.drew ?_ | refine bel_al ?_ _ | refine bel_set ?_ (by omega) _ | refine bel_tr ?_ (by assumption)))⟩
    · have h2' : (q1 == q2) = false := by simpa using h2
      go_enter Tryz.func91, Tryz.ntmps91
      go_wp2
      go_ret
      exact ⟨by simp [h2], (by repeat (first | exact Below.refl _ _ | assumption | refine Below.drew ?_ | refine bel_al ?_ _ | refine bel_set ?_ (by omega) _ | refine bel_tr ?_ (by assumption)))⟩
  · have h1' : (s1 == s2) = false := by simpa using h1
    go_enter Tryz.func91, Tryz.ntmps91
    go_wp2
    go_ret
    exact ⟨by simp [h1], (by repeat (first | exact Below.refl _ _ | assumption | refine Below.drew ?_ | refine bel_al ?_ _ | refine bel_set ?_ (by omega) _ | refine bel_tr ?_ (by assumption)))⟩
theorem any_take_next {l : List Evt} {j : Nat} {y x : Evt} (hy : l[j]? = some y) (h : (l.take j).any (twinE x) = false) (hn : twinB y.src y.sq x.src x.sq = false) : (l.take (j + 1)).any (twinE x) = false := by
  rw [take_snoc' hy, List.any_append, h, List.any_cons, List.any_nil]
  have : twinE x y = false := by
    unfold twinE; unfold twinB at hn
    rw [decide_eq_false_iff_not] at hn ⊢
    exact fun ⟨a, b⟩ => hn ⟨a.symm, b.symm⟩
  rw [this]; rfl
theorem any_take_hit {l : List Evt} {k j : Nat} {y x : Evt} (hy : l[j]? = some y) (hj : j < k) (hn : twinB y.src y.sq x.src x.sq = true) : (l.take k).any (twinE x) = true := by
  rw [List.any_eq_true]
  refine ⟨y, ?_, ?_⟩
  · rw [List.mem_iff_getElem?]
    exact ⟨j, by rw [List.getElem?_take_of_lt hj]; exact hy⟩
  · unfold twinE; unfold twinB at hn
    rw [decide_eq_true_eq] at hn ⊢
    exact ⟨hn.1.symm, hn.2.symm⟩

set_option maxRecDepth 100000 in
set_option maxHeartbeats 2000000 in
theorem rstrchk_any (l : List Evt) (v : Value) (w : World) (hl : IsEvts w v l) :
    Calls Tryz.prog 65 #[v] w fun e w' => e = .returned (.int .i64 (strErr l)) ∧ Below w.heap.size w w' := by
  unfold strErr
  obtain ⟨A, c, rfl, h1, h2, hat⟩ := hl
  have hn := len_i64 h1 h2
  have HL := Lib.hid hat
  clear hat h1 h2
  by_cases hm : 4096 < l.length
  · rw [if_pos hm]
    have hm' : (4096 : Int) < (l.length : Int) := by omega
    go_enter Tryz.func65, Tryz.ntmps65
    go_wp2_with fail
    go_ret
    exact ⟨rfl, (by repeat (first | exact Below.refl _ _ | assumption | refine Below.drew ?_ | refine bel_al ?_ _ | refine bel_set ?_ (by omega) _ | refine bel_tr ?_ (by assumption)))⟩
  rw [if_neg hm]
  have hm' : ¬ (4096 : Int) < (l.length : Int) := by omega
  clear hm
  go_enter Tryz.func65, Tryz.ntmps65
  go_wp2_with fail
  go_loopw [3] (fun i wr => ∃ k : Nat, k ≤ l.length ∧ i = .int .i64 k ∧ Hid (strFrom (l.take k) (l.drop k) = strFrom [] l) ∧ Below w.heap.size w wr) (fun i _ => l.length - (intOf i).toNat)
  case atStart => exact ⟨0, Nat.zero_le _, rfl, Lib.hid rfl, Below.refl _ _⟩
  case round =>
    obtain ⟨k, hk, rfl, hi, hb⟩ := hrel
    by_cases hlt : k < l.length
    · have hk' : (k : Int) < (l.length : Int) := by omega
      obtain ⟨b, o, rfl, vv, hvv, c0, c1, c2, c3, c4⟩ := HL.out k l[k] (List.getElem?_eq_getElem hlt)
      replace c0 := cell_stays hb c0
      replace c1 := cell_stays hb c1
      replace c2 := cell_stays hb c2
      replace c3 := cell_stays hb c3
      replace c4 := cell_stays hb c4
      obtain ⟨A1, cx, rfl, -⟩ := hvv
      have hget := Lib.hid (List.getElem?_eq_getElem hlt)
      obtain ⟨x, hx⟩ : ∃ x, x = l[k] := ⟨_, rfl⟩
      rw [← hx] at hget c0 c1 c2 c3 c4
      clear hx
      have HPL : ∀ W, Calls Tryz.prog 82 #[.agg #[.int .i64 x.src, .int .i64 x.sq, .int .i64 x.ty, .int .i64 x.tm, .slice A1 x.vals.length cx]] W fun e w' => e = .returned (.bool (placedE x)) ∧ Gr W w' := fun W => rplacedV_any x A1 _ cx W _ rfl
      by_cases hp : placedE x = false
      · have HP := Lib.hid hp
        rw [hp] at HPL
        have HPL := Lib.hid HPL
        clear hp
        go_wp2_with (go_at_call 82; refine (HPL.out _).mono ?_; rintro e w3 ⟨rfl, hg3⟩)
        go_ret
        exact ⟨ret_i (str_stop hget.out hi.out (evE_2 HP.out) (by decide)), bel_tr hb hg3.below⟩
      rw [Bool.not_eq_false] at hp
      rw [hp] at HPL
      have HPL := Lib.hid HPL
      have HP := Lib.hid hp
      clear hp
      go_wp2_with fail
      refine (HPL.out _).mono ?_
      rintro e w4 ⟨rfl, hg4⟩
      replace hg4 := hg4.below
      have HB4 := Lib.hid (bel_tr hb hg4)
      replace c0 := cell_stays hg4 c0
      replace c1 := cell_stays hg4 c1
      replace c2 := cell_stays hg4 c2
      replace c3 := cell_stays hg4 c3
      replace c4 := cell_stays hg4 c4
      clear hg4
      by_cases hk0 : k = 0
      · have HLT : Hid (lateE (l.take k) x = false) := Lib.hid (late_first hk0)
        have hkz : (l.take k).any (twinE x) = false := by rw [hk0]; rfl
        have HKZ := Lib.hid hkz
        have d1 : decide (0 < k) = false := by simp [hk0]
        have d2 : decide ((0 : Int) < (k : Int)) = false := by simp [hk0]
        clear hkz hk0
        go_wp2_with fail
        refine wp_region_F (fun W => W.cell? ⟨b, o + k * 5, none⟩ = some (.int .i64 x.src) ∧ W.cell? ⟨b, o + k * 5 + 1, none⟩ = some (.int .i64 x.sq) ∧ W.cell? ⟨b, o + k * 5 + 2, none⟩ = some (.int .i64 x.ty) ∧ W.cell? ⟨b, o + k * 5 + 3, none⟩ = some (.int .i64 x.tm) ∧ W.cell? ⟨b, o + k * 5 + 4, none⟩ = some (.slice A1 x.vals.length cx)) (by repeat (first | exact grows_cell _ _ _ | exact grows_true | refine grows_and ?_ ?_)) (by kernel_rfl) (by kernel_rfl) ?hF ?_; (case hF => (first | exact ⟨‹_›, ‹_›⟩ | (go_simp; done) | (simp [*]; done) | (repeat' (first | (refine And.intro ?_ ?_) | (go_simp; done) | exact cell_stays (bel_al (Below.refl _ _) _) (by assumption) | assumption)))); intro hne hxx; have hG : Hid (Grows (fun W => W.cell? ⟨b, o + k * 5, none⟩ = some (.int .i64 x.src) ∧ W.cell? ⟨b, o + k * 5 + 1, none⟩ = some (.int .i64 x.sq) ∧ W.cell? ⟨b, o + k * 5 + 2, none⟩ = some (.int .i64 x.ty) ∧ W.cell? ⟨b, o + k * 5 + 3, none⟩ = some (.int .i64 x.tm) ∧ W.cell? ⟨b, o + k * 5 + 4, none⟩ = some (.slice A1 x.vals.length cx))) := (by repeat (first | exact grows_cell _ _ _ | exact grows_true | refine grows_and ?_ ?_)); (repeat (go_big_quiet_step (fail))); clear hG hxx hne; refine wpQuiet_nil ?_; rintro wq ⟨⟨w', hb', hF'⟩, rfl⟩
        go_wp2_with fail
        refine wp_gen fun wz ez => ?_
        obtain rfl : wq = wz := ez.symm
        clear ez
        go_loopw [4] (fun i wr => i = .int .i64 0 ∧ wr = wq) (fun i _ => 0)
        case atStart => exact ⟨rfl, rfl⟩
        case round =>
          obtain ⟨rfl, rfl⟩ := hrel
          go_wp2_with fail
          go_roundw
          case rel => exact ⟨k + 1, by omega, by go_num, Lib.hid (str_go hget.out hi.out (evE_0 HP.out HLT.out HKZ.out)), bel_tr HB4.out hb'⟩
          case measure => simp [intOf]; omega
      · have hk1 : (0 : Int) ≤ (k : Int) - 1 := by omega
        have hk2 : (k : Int) - 1 < (l.length : Int) := by omega
        have d1 : decide (0 < k) = true := by simp; omega
        have d2 : decide ((0 : Int) < (k : Int)) = true := by simp; omega
        have HK := Lib.hid hk0
        clear hk0
        obtain ⟨_, _, hbo, vp, hvp, p0, p1, p2, p3, p4⟩ := HL.out (k - 1) l[k - 1] (List.getElem?_eq_getElem (by omega))
        simp only [Option.some.injEq, Addr.mk.injEq, and_true] at hbo
        obtain ⟨rfl, rfl⟩ := hbo
        obtain ⟨A2, cp, rfl, -⟩ := hvp
        have hgetp := Lib.hid (List.getElem?_eq_getElem (l := l) (i := k - 1) (by omega))
        obtain ⟨p, hp⟩ : ∃ p, p = l[k - 1] := ⟨_, rfl⟩
        rw [← hp] at p0 p1 p2 p3 p4 hgetp
        clear hp
        obtain ⟨r, hr⟩ : ∃ r, refsC (eRef p) (eRef x) = r := ⟨_, rfl⟩
        have HR := Lib.hid hr
        have HRR : Hid (∀ W, Calls Tryz.prog 36 #[.agg #[.int .i64 p.tm, .int .i64 p.src, .int .i64 p.sq], .agg #[.int .i64 x.tm, .int .i64 x.src, .int .i64 x.sq]] W fun e w' => e = .returned (.int .i64 r) ∧ Below W.heap.size W w') := Lib.hid fun W => (rrefs_bnd (eRef p) (eRef x) W).mono (fun e w' ⟨h1, h2⟩ => ⟨h1.trans (by rw [hr]), h2.below⟩)
        clear hr
        replace p0 := cell_stays HB4.out p0
        replace p1 := cell_stays HB4.out p1
        replace p2 := cell_stays HB4.out p2
        replace p3 := cell_stays HB4.out p3
        replace p4 := cell_stays HB4.out p4
        go_wp2_with fail
        refine wp_region_F (fun W => W.cell? ⟨b, o + k * 5, none⟩ = some (.int .i64 x.src) ∧ W.cell? ⟨b, o + k * 5 + 1, none⟩ = some (.int .i64 x.sq) ∧ W.cell? ⟨b, o + k * 5 + 2, none⟩ = some (.int .i64 x.ty) ∧ W.cell? ⟨b, o + k * 5 + 3, none⟩ = some (.int .i64 x.tm) ∧ W.cell? ⟨b, o + k * 5 + 4, none⟩ = some (.slice A1 x.vals.length cx) ∧ W.cell? ⟨b, o + (k - 1) * 5, none⟩ = some (.int .i64 p.src) ∧ W.cell? ⟨b, o + (k - 1) * 5 + 1, none⟩ = some (.int .i64 p.sq) ∧ W.cell? ⟨b, o + (k - 1) * 5 + 2, none⟩ = some (.int .i64 p.ty) ∧ W.cell? ⟨b, o + (k - 1) * 5 + 3, none⟩ = some (.int .i64 p.tm) ∧ W.cell? ⟨b, o + (k - 1) * 5 + 4, none⟩ = some (.slice A2 p.vals.length cp)) (by repeat (first | exact grows_cell _ _ _ | exact grows_true | refine grows_and ?_ ?_)) (by kernel_rfl) (by kernel_rfl) ?hF ?_; (case hF => (first | exact ⟨‹_›, ‹_›⟩ | (go_simp; done) | (simp [*]; done) | (repeat' (first | (refine And.intro ?_ ?_) | (go_simp; done) | exact cell_stays (bel_al (Below.refl _ _) _) (by assumption) | assumption)))); intro hne hxx; have hG : Hid (Grows (fun W => W.cell? ⟨b, o + k * 5, none⟩ = some (.int .i64 x.src) ∧ W.cell? ⟨b, o + k * 5 + 1, none⟩ = some (.int .i64 x.sq) ∧ W.cell? ⟨b, o + k * 5 + 2, none⟩ = some (.int .i64 x.ty) ∧ W.cell? ⟨b, o + k * 5 + 3, none⟩ = some (.int .i64 x.tm) ∧ W.cell? ⟨b, o + k * 5 + 4, none⟩ = some (.slice A1 x.vals.length cx) ∧ W.cell? ⟨b, o + (k - 1) * 5, none⟩ = some (.int .i64 p.src) ∧ W.cell? ⟨b, o + (k - 1) * 5 + 1, none⟩ = some (.int .i64 p.sq) ∧ W.cell? ⟨b, o + (k - 1) * 5 + 2, none⟩ = some (.int .i64 p.ty) ∧ W.cell? ⟨b, o + (k - 1) * 5 + 3, none⟩ = some (.int .i64 p.tm) ∧ W.cell? ⟨b, o + (k - 1) * 5 + 4, none⟩ = some (.slice A2 p.vals.length cp))) := (by repeat (first | exact grows_cell _ _ _ | exact grows_true | refine grows_and ?_ ?_)); (repeat (go_big_quiet_step (first | (go_at_call 37; exact cls_call hG (rRef_bel _ _ _ _ _ _ _ _)) | (go_at_call 36; exact cls_call hG (HRR.out _))))); clear hG hxx hne; refine wpQuiet_nil ?_; rintro wq ⟨⟨w', hb', hF'⟩, rfl⟩
        by_cases hr0 : 0 ≤ r
        · have d3 : decide (0 ≤ r) = true := by simpa using hr0
          go_wp2_with fail
          go_ret
          exact ⟨ret_i (str_stop hget.out hi.out (evE_14 HP.out hk HK.out hgetp.out (by rw [HR.out]; exact hr0)) (by decide)), bel_tr HB4.out hb'⟩
        · have d3 : decide (0 ≤ r) = false := by simpa using hr0
          have HLT : Hid (lateE (l.take k) x = false) := Lib.hid (late_not hk HK.out hgetp.out (by rw [HR.out]; omega))
          have HBQ := Lib.hid (bel_tr HB4.out hb')
          obtain ⟨z0, z1, z2, z3, z4, -⟩ := hF'
          clear p0 p1 p2 p3 p4 c0 c1 c2 c3 c4 hb'
          go_wp2_with fail
          clear hr0 d1 d2 hk1 hk2
          have hz := Lib.hid (And.intro z0 (And.intro z1 (And.intro z2 (And.intro z3 z4))))
          clear z0 z1 z2 z3 z4
          refine wp_gen fun wz ez => ?_
          obtain rfl : wq = wz := ez.symm
          clear ez
          go_loopw [4] (fun i wr => ∃ j : Nat, j ≤ k ∧ i = .int .i64 j ∧ Hid ((l.take j).any (twinE x) = false) ∧ Below wq.heap.size wq wr) (fun i _ => k - (intOf i).toNat)
          case atStart => exact ⟨0, Nat.zero_le _, rfl, Lib.hid rfl, Below.refl _ _⟩
          case round =>
            obtain ⟨j, hj, rfl, hJ, hbj⟩ := hrel
            by_cases hjk : j < k
            · have hj' : (j : Int) < (k : Int) := by omega
              have hjl : (j : Int) < (l.length : Int) := by omega
              obtain ⟨_, _, hbo, vj, hvj, j0, j1, j2, j3, j4⟩ := HL.out j l[j] (List.getElem?_eq_getElem (by omega))
              simp only [Option.some.injEq, Addr.mk.injEq, and_true] at hbo
              obtain ⟨rfl, rfl⟩ := hbo
              obtain ⟨A3, cj, rfl, -⟩ := hvj
              have hgetj := Lib.hid (List.getElem?_eq_getElem (l := l) (i := j) (by omega))
              obtain ⟨y, hy⟩ : ∃ y, y = l[j] := ⟨_, rfl⟩
              rw [← hy] at j0 j1 j2 j3 j4 hgetj
              clear hy
              have hbw := bel_tr HBQ.out hbj
              replace j0 := cell_stays hbw j0
              replace j1 := cell_stays hbw j1
              replace j2 := cell_stays hbw j2
              replace j3 := cell_stays hbw j3
              replace j4 := cell_stays hbw j4
              obtain ⟨z0, z1, z2, z3, z4⟩ := hz.out
              replace z0 := cell_stays hbj z0
              replace z1 := cell_stays hbj z1
              replace z2 := cell_stays hbj z2
              replace z3 := cell_stays hbj z3
              replace z4 := cell_stays hbj z4
              obtain ⟨tb, htb⟩ : ∃ t, twinB y.src y.sq x.src x.sq = t := ⟨_, rfl⟩
              have HTB := Lib.hid htb
              have HTW : Hid (∀ W, Calls Tryz.prog 91 #[.agg #[.int .i64 y.src, .int .i64 y.sq, .int .i64 y.ty, .int .i64 y.tm, .slice A3 y.vals.length cj], .agg #[.int .i64 x.src, .int .i64 x.sq, .int .i64 x.ty, .int .i64 x.tm, .slice A1 x.vals.length cx]] W fun e w' => e = .returned (.bool tb) ∧ Below W.heap.size W w') := Lib.hid fun W => by rw [← htb]; exact rtwin_raw _ _ _ _ _ _ _ _ _ _ _ _ _ _ W
              clear htb hbw
              go_wp2_with fail
              refine wp_region_F (fun W => W.cell? ⟨b, o + k * 5, none⟩ = some (.int .i64 x.src) ∧ W.cell? ⟨b, o + k * 5 + 1, none⟩ = some (.int .i64 x.sq) ∧ W.cell? ⟨b, o + k * 5 + 2, none⟩ = some (.int .i64 x.ty) ∧ W.cell? ⟨b, o + k * 5 + 3, none⟩ = some (.int .i64 x.tm) ∧ W.cell? ⟨b, o + k * 5 + 4, none⟩ = some (.slice A1 x.vals.length cx) ∧ W.cell? ⟨b, o + j * 5, none⟩ = some (.int .i64 y.src) ∧ W.cell? ⟨b, o + j * 5 + 1, none⟩ = some (.int .i64 y.sq) ∧ W.cell? ⟨b, o + j * 5 + 2, none⟩ = some (.int .i64 y.ty) ∧ W.cell? ⟨b, o + j * 5 + 3, none⟩ = some (.int .i64 y.tm) ∧ W.cell? ⟨b, o + j * 5 + 4, none⟩ = some (.slice A3 y.vals.length cj)) (by repeat (first | exact grows_cell _ _ _ | exact grows_true | refine grows_and ?_ ?_)) (by kernel_rfl) (by kernel_rfl) ?hF ?_; (case hF => (first | exact ⟨‹_›, ‹_›⟩ | (go_simp; done) | (simp [*]; done) | (repeat' (first | (refine And.intro ?_ ?_) | (go_simp; done) | exact cell_stays (bel_al (Below.refl _ _) _) (by assumption) | assumption)))); intro hne hxx; have hG : Hid (Grows (fun W => W.cell? ⟨b, o + k * 5, none⟩ = some (.int .i64 x.src) ∧ W.cell? ⟨b, o + k * 5 + 1, none⟩ = some (.int .i64 x.sq) ∧ W.cell? ⟨b, o + k * 5 + 2, none⟩ = some (.int .i64 x.ty) ∧ W.cell? ⟨b, o + k * 5 + 3, none⟩ = some (.int .i64 x.tm) ∧ W.cell? ⟨b, o + k * 5 + 4, none⟩ = some (.slice A1 x.vals.length cx) ∧ W.cell? ⟨b, o + j * 5, none⟩ = some (.int .i64 y.src) ∧ W.cell? ⟨b, o + j * 5 + 1, none⟩ = some (.int .i64 y.sq) ∧ W.cell? ⟨b, o + j * 5 + 2, none⟩ = some (.int .i64 y.ty) ∧ W.cell? ⟨b, o + j * 5 + 3, none⟩ = some (.int .i64 y.tm) ∧ W.cell? ⟨b, o + j * 5 + 4, none⟩ = some (.slice A3 y.vals.length cj))) := (by repeat (first | exact grows_cell _ _ _ | exact grows_true | refine grows_and ?_ ?_)); (repeat (go_big_quiet_step ((go_at_call 91; exact cls_call hG (HTW.out _))))); clear hG hxx hne; refine wpQuiet_nil ?_; rintro wq ⟨⟨w', hb', hF'⟩, rfl⟩
              cases tb
              · go_wp2_with fail
                go_roundw
                case rel => exact ⟨j + 1, by omega, by go_num, Lib.hid (any_take_next hgetj.out hJ.out HTB.out), bel_tr hbj hb'⟩
                case measure => simp [intOf]; omega
              · go_wp2_with fail
                go_ret
                exact ⟨ret_i (str_stop hget.out hi.out (evE_7 HP.out HLT.out (any_take_hit hgetj.out hjk HTB.out)) (by decide)), bel_tr HBQ.out (bel_tr hbj hb')⟩
            · have hj' : ¬ (j : Int) < (k : Int) := by omega
              have hje : j = k := by omega
              have HJE := Lib.hid hje
              clear hje
              go_wp2_with fail
              go_roundw
              case rel => exact ⟨k + 1, by omega, by go_num, Lib.hid (str_go hget.out hi.out (evE_0 HP.out HLT.out (by rw [← HJE.out]; exact hJ.out))), bel_tr HBQ.out hbj⟩
              case measure => simp [intOf]; omega
    · have hk' : ¬ (k : Int) < (l.length : Int) := by omega
      go_wp2_with fail
      go_ret
      exact ⟨ret_i (str_end (by omega) hi.out), hb⟩
end Go.Proofs.YtclpglgigpjfoaaGreatDoor
namespace Go.Proofs.YtclpglgigpjfoaaGreatDoor
open Go.RowKit

def vlV (x : Vl) : Value := .agg #[.int .i64 x.kind, .int .i64 x.num, .string x.text]
theorem vl_neq (a : Vl) (W : World) : (binOp .neq 88 (vlV a) (vlV a)).run Tryz.prog W = .ok (.bool false) W := by
  have u3 := Tryz.underlying3
  have a3 := Tryz.isAgg3
  have z3 := Tryz.sizeOf3
  have u9 : Tryz.prog.underlying 9 = some .string := by kernel_rfl
  have a9 := Tryz.isAgg9
  have z9 := Tryz.sizeOf9
  have hS : Tryz.prog.underlying 88 = some (.struct (Tryz.prog.fieldsOf 88)) := by kernel_rfl
  have hp : Tryz.prog.stoodInHeld 88 = false := by kernel_rfl
  unfold vlV
  rw [run_neq_struct, show (10000 : Nat) = 9999 + 1 from rfl, run_equalIn_agg W 9999 88 _ _ hS hp]
  simp only [Program.fieldsOf, Tryz.underlying88]
  go_simp

set_option maxRecDepth 100000 in
set_option maxHeartbeats 1000000 in
theorem rvsame_eq (l : List Vl) (v1 v2 : Value) (w : World) (h1 : IsVls w v1 l) (h2 : IsVls w v2 l) :
    Calls Tryz.prog 45 #[v1, v2] w fun e w' => e = .returned (.bool true) ∧ Below w.heap.size w w' := by
  obtain ⟨A1, c1, rfl, l1, m1, a1⟩ := h1
  obtain ⟨A2, c2, rfl, l2, m2, a2⟩ := h2
  have hn := len_i64 l1 m1
  have HA1 := Lib.hid a1
  have HA2 := Lib.hid a2
  clear a1 a2 l1 l2 m1 m2
  go_enter Tryz.func45, Tryz.ntmps45
  go_wp2
  go_loopw [5] (fun i wr => ∃ k : Nat, k ≤ l.length ∧ i = .int .i64 k ∧ Below w.heap.size w wr) (fun i _ => l.length - (intOf i).toNat)
  case atStart => exact ⟨0, Nat.zero_le _, rfl, Below.refl _ _⟩
  case round =>
    obtain ⟨k, hk, rfl, hb⟩ := hrel
    by_cases hlt : k < l.length
    · obtain ⟨b1, o1, rfl, p0, p1, p2⟩ := HA1.out k l[k] (List.getElem?_eq_getElem hlt)
      obtain ⟨b2, o2, rfl, q0, q1, q2⟩ := HA2.out k l[k] (List.getElem?_eq_getElem hlt)
      replace p0 := cell_stays hb p0
      replace p1 := cell_stays hb p1
      replace p2 := cell_stays hb p2
      replace q0 := cell_stays hb q0
      replace q1 := cell_stays hb q1
      replace q2 := cell_stays hb q2
      have hk' : (k : Int) < (l.length : Int) := by omega
      obtain ⟨x, hx⟩ : ∃ x, x = l[k] := ⟨_, rfl⟩
      rw [← hx] at p0 p1 p2 q0 q1 q2
      clear hx
      have he := fun W => vl_neq x W
      unfold vlV at he
      go_wp2_with fail
      refine wp_region_F (fun W => W.cell? ⟨b1, o1 + k * 3, none⟩ = some (.int .i64 x.kind) ∧ W.cell? ⟨b1, o1 + k * 3 + 1, none⟩ = some (.int .i64 x.num) ∧ W.cell? ⟨b1, o1 + k * 3 + 2, none⟩ = some (.string x.text) ∧ W.cell? ⟨b2, o2 + k * 3, none⟩ = some (.int .i64 x.kind) ∧ W.cell? ⟨b2, o2 + k * 3 + 1, none⟩ = some (.int .i64 x.num) ∧ W.cell? ⟨b2, o2 + k * 3 + 2, none⟩ = some (.string x.text)) (by repeat (first | exact grows_cell _ _ _ | exact grows_true | refine grows_and ?_ ?_)) (by kernel_rfl) (by kernel_rfl) ?hF ?_; (case hF => (first | exact ⟨‹_›, ‹_›⟩ | (go_simp; done) | (simp [*]; done) | (repeat' (first | (refine And.intro ?_ ?_) | (go_simp; done) | exact cell_stays (bel_al (Below.refl _ _) _) (by assumption) | assumption)))); intro hne hxx; have hG : Hid (Grows (fun W => W.cell? ⟨b1, o1 + k * 3, none⟩ = some (.int .i64 x.kind) ∧ W.cell? ⟨b1, o1 + k * 3 + 1, none⟩ = some (.int .i64 x.num) ∧ W.cell? ⟨b1, o1 + k * 3 + 2, none⟩ = some (.string x.text) ∧ W.cell? ⟨b2, o2 + k * 3, none⟩ = some (.int .i64 x.kind) ∧ W.cell? ⟨b2, o2 + k * 3 + 1, none⟩ = some (.int .i64 x.num) ∧ W.cell? ⟨b2, o2 + k * 3 + 2, none⟩ = some (.string x.text))) := (by repeat (first | exact grows_cell _ _ _ | exact grows_true | refine grows_and ?_ ?_)); (repeat (go_big_quiet_step (fail))); clear hG hxx hne; refine wpQuiet_nil ?_; rintro _ ⟨⟨w', hb', hF'⟩, rfl⟩
      clear hF' he
      go_wp2
      go_roundw
      case rel => exact ⟨k + 1, by omega, by go_num, bel_tr hb hb'⟩
      case measure => simp [intOf]; omega
    · go_wp2
      go_ret
      exact ⟨rfl, hb⟩

set_option maxRecDepth 100000 in
set_option maxHeartbeats 1000000 in
theorem requal_eq (x : Evt) (v1 v2 : Value) (w : World) (h1 : IsVls w v1 x.vals) (h2 : IsVls w v2 x.vals) :
    Calls Tryz.prog 75 #[evtV x v1, evtV x v2] w fun e w' => e = .returned (.bool true) ∧ Below w.heap.size w w' := by
  have HV1 := Lib.hid h1
  have HV2 := Lib.hid h2
  obtain ⟨A1, c1, rfl, -⟩ := h1
  obtain ⟨A2, c2, rfl, -⟩ := h2
  unfold evtV
  have he : ∀ W, (binOp .eql 74 (refV (eRef x)) (refV (eRef x))).run Tryz.prog W = .ok (.bool true) W := fun W => by rw [ref_eql]; simp [refEq]
  unfold refV eRef at he
  go_enter Tryz.func75, Tryz.ntmps75
  go_wp2_with fail
  refine wp_region_F (fun W => W.cell? ⟨w.heap.size, 0, none⟩ = some (.int .i64 x.src) ∧ W.cell? ⟨w.heap.size, 1, none⟩ = some (.int .i64 x.sq) ∧ W.cell? ⟨w.heap.size, 2, none⟩ = some (.int .i64 x.ty) ∧ W.cell? ⟨w.heap.size, 3, none⟩ = some (.int .i64 x.tm) ∧ W.cell? ⟨w.heap.size, 4, none⟩ = some (.slice A1 x.vals.length c1) ∧ W.cell? ⟨w.heap.size + 1, 0, none⟩ = some (.int .i64 x.src) ∧ W.cell? ⟨w.heap.size + 1, 1, none⟩ = some (.int .i64 x.sq) ∧ W.cell? ⟨w.heap.size + 1, 2, none⟩ = some (.int .i64 x.ty) ∧ W.cell? ⟨w.heap.size + 1, 3, none⟩ = some (.int .i64 x.tm) ∧ W.cell? ⟨w.heap.size + 1, 4, none⟩ = some (.slice A2 x.vals.length c2)) (by repeat (first | exact grows_cell _ _ _ | exact grows_true | refine grows_and ?_ ?_)) (by kernel_rfl) (by kernel_rfl) ?hF ?_; (case hF => (first | exact ⟨‹_›, ‹_›⟩ | (go_simp; done) | (simp [*]; done) | (repeat' (first | (refine And.intro ?_ ?_) | (go_simp; done) | exact cell_stays (bel_al (Below.refl _ _) _) (by assumption) | assumption)))); intro hne hxx; have hG : Hid (Grows (fun W => W.cell? ⟨w.heap.size, 0, none⟩ = some (.int .i64 x.src) ∧ W.cell? ⟨w.heap.size, 1, none⟩ = some (.int .i64 x.sq) ∧ W.cell? ⟨w.heap.size, 2, none⟩ = some (.int .i64 x.ty) ∧ W.cell? ⟨w.heap.size, 3, none⟩ = some (.int .i64 x.tm) ∧ W.cell? ⟨w.heap.size, 4, none⟩ = some (.slice A1 x.vals.length c1) ∧ W.cell? ⟨w.heap.size + 1, 0, none⟩ = some (.int .i64 x.src) ∧ W.cell? ⟨w.heap.size + 1, 1, none⟩ = some (.int .i64 x.sq) ∧ W.cell? ⟨w.heap.size + 1, 2, none⟩ = some (.int .i64 x.ty) ∧ W.cell? ⟨w.heap.size + 1, 3, none⟩ = some (.int .i64 x.tm) ∧ W.cell? ⟨w.heap.size + 1, 4, none⟩ = some (.slice A2 x.vals.length c2))) := (by repeat (first | exact grows_cell _ _ _ | exact grows_true | refine grows_and ?_ ?_)); (repeat (go_big_quiet_step (first | (go_at_call 37; exact cls_call hG (rRef_bel _ _ _ _ _ _ _ _)) | (go_at_call 45; exact cls_callB hG (fun W hW => rvsame_eq x.vals _ _ W (HV1.out.stays vlAt_stays (bel_tr (bel_tr (bel_one _ _) (bel_one _ _)) hW)) (HV2.out.stays vlAt_stays (bel_tr (bel_tr (bel_one _ _) (bel_one _ _)) hW))))))); clear hG hxx hne; refine wpQuiet_nil ?_; rintro wq ⟨⟨w', hb', hF'⟩, rfl⟩
  clear hF'
  go_wp2_with fail
  go_ret
  exact ⟨rfl, bel_tr (bel_tr (bel_one _ _) (bel_one _ _)) hb'⟩

set_option maxRecDepth 100000 in
set_option maxHeartbeats 1000000 in
theorem resame_eq (l : List Evt) (v1 v2 : Value) (w : World) (h1 : IsEvts w v1 l) (h2 : IsEvts w v2 l) :
    Calls Tryz.prog 48 #[v1, v2] w fun e w' => e = .returned (.bool true) ∧ Below w.heap.size w w' := by
  obtain ⟨A1, c1, rfl, l1, m1, a1⟩ := h1
  obtain ⟨A2, c2, rfl, l2, m2, a2⟩ := h2
  have hn := len_i64 l1 m1
  have HA1 := Lib.hid a1
  have HA2 := Lib.hid a2
  clear a1 a2 l1 l2 m1 m2
  go_enter Tryz.func48, Tryz.ntmps48
  go_wp2
  go_loopw [5] (fun i wr => ∃ k : Nat, k ≤ l.length ∧ i = .int .i64 k ∧ Below w.heap.size w wr) (fun i _ => l.length - (intOf i).toNat)
  case atStart => exact ⟨0, Nat.zero_le _, rfl, Below.refl _ _⟩
  case round =>
    obtain ⟨k, hk, rfl, hb⟩ := hrel
    by_cases hlt : k < l.length
    · obtain ⟨b1, o1, rfl, u1, hu1, p0, p1, p2, p3, p4⟩ := HA1.out k l[k] (List.getElem?_eq_getElem hlt)
      obtain ⟨b2, o2, rfl, u2, hu2, q0, q1, q2, q3, q4⟩ := HA2.out k l[k] (List.getElem?_eq_getElem hlt)
      replace p0 := cell_stays hb p0
      replace p1 := cell_stays hb p1
      replace p2 := cell_stays hb p2
      replace p3 := cell_stays hb p3
      replace p4 := cell_stays hb p4
      replace q0 := cell_stays hb q0
      replace q1 := cell_stays hb q1
      replace q2 := cell_stays hb q2
      replace q3 := cell_stays hb q3
      replace q4 := cell_stays hb q4
      have HU1 := Lib.hid (hu1.stays vlAt_stays hb)
      have HU2 := Lib.hid (hu2.stays vlAt_stays hb)
      obtain ⟨A3, c3, rfl, -⟩ := hu1
      obtain ⟨A4, c4, rfl, -⟩ := hu2
      have hk' : (k : Int) < (l.length : Int) := by omega
      obtain ⟨x, hx⟩ : ∃ x, x = l[k] := ⟨_, rfl⟩
      rw [← hx] at p0 p1 p2 p3 p4 q0 q1 q2 q3 q4 HU1 HU2
      clear hx
      go_wp2_with fail
      refine wp_region_F (fun W => W.cell? ⟨b1, o1 + k * 5, none⟩ = some (.int .i64 x.src) ∧ W.cell? ⟨b1, o1 + k * 5 + 1, none⟩ = some (.int .i64 x.sq) ∧ W.cell? ⟨b1, o1 + k * 5 + 2, none⟩ = some (.int .i64 x.ty) ∧ W.cell? ⟨b1, o1 + k * 5 + 3, none⟩ = some (.int .i64 x.tm) ∧ W.cell? ⟨b1, o1 + k * 5 + 4, none⟩ = some (.slice A3 x.vals.length c3) ∧ W.cell? ⟨b2, o2 + k * 5, none⟩ = some (.int .i64 x.src) ∧ W.cell? ⟨b2, o2 + k * 5 + 1, none⟩ = some (.int .i64 x.sq) ∧ W.cell? ⟨b2, o2 + k * 5 + 2, none⟩ = some (.int .i64 x.ty) ∧ W.cell? ⟨b2, o2 + k * 5 + 3, none⟩ = some (.int .i64 x.tm) ∧ W.cell? ⟨b2, o2 + k * 5 + 4, none⟩ = some (.slice A4 x.vals.length c4)) (by repeat (first | exact grows_cell _ _ _ | exact grows_true | refine grows_and ?_ ?_)) (by kernel_rfl) (by kernel_rfl) ?hF ?_; (case hF => (first | exact ⟨‹_›, ‹_›⟩ | (go_simp; done) | (simp [*]; done) | (repeat' (first | (refine And.intro ?_ ?_) | (go_simp; done) | exact cell_stays (bel_al (Below.refl _ _) _) (by assumption) | assumption)))); intro hne hxx; have hG : Hid (Grows (fun W => W.cell? ⟨b1, o1 + k * 5, none⟩ = some (.int .i64 x.src) ∧ W.cell? ⟨b1, o1 + k * 5 + 1, none⟩ = some (.int .i64 x.sq) ∧ W.cell? ⟨b1, o1 + k * 5 + 2, none⟩ = some (.int .i64 x.ty) ∧ W.cell? ⟨b1, o1 + k * 5 + 3, none⟩ = some (.int .i64 x.tm) ∧ W.cell? ⟨b1, o1 + k * 5 + 4, none⟩ = some (.slice A3 x.vals.length c3) ∧ W.cell? ⟨b2, o2 + k * 5, none⟩ = some (.int .i64 x.src) ∧ W.cell? ⟨b2, o2 + k * 5 + 1, none⟩ = some (.int .i64 x.sq) ∧ W.cell? ⟨b2, o2 + k * 5 + 2, none⟩ = some (.int .i64 x.ty) ∧ W.cell? ⟨b2, o2 + k * 5 + 3, none⟩ = some (.int .i64 x.tm) ∧ W.cell? ⟨b2, o2 + k * 5 + 4, none⟩ = some (.slice A4 x.vals.length c4))) := (by repeat (first | exact grows_cell _ _ _ | exact grows_true | refine grows_and ?_ ?_)); (repeat (go_big_quiet_step ((go_at_call 75; exact cls_callB hG (fun W hW => requal_eq x _ _ W (HU1.out.stays vlAt_stays hW) (HU2.out.stays vlAt_stays hW)))))); clear hG hxx hne; refine wpQuiet_nil ?_; rintro _ ⟨⟨w', hb', hF'⟩, rfl⟩
      clear hF'
      go_wp2
      go_roundw
      case rel => exact ⟨k + 1, by omega, by go_num, bel_tr hb hb'⟩
      case measure => simp [intOf]; omega
    · go_wp2
      go_ret
      exact ⟨rfl, hb⟩

set_option maxRecDepth 100000 in
set_option maxHeartbeats 1000000 in
theorem rasame_eq (l : List (List Evt)) (v1 v2 : Value) (w : World) (h1 : IsVars w v1 l) (h2 : IsVars w v2 l) :
    Calls Tryz.prog 68 #[v1, v2] w fun e w' => e = .returned (.bool true) ∧ Below w.heap.size w w' := by
  obtain ⟨A1, c1, rfl, l1, m1, a1⟩ := h1
  obtain ⟨A2, c2, rfl, l2, m2, a2⟩ := h2
  have hn := len_i64 l1 m1
  have HA1 := Lib.hid a1
  have HA2 := Lib.hid a2
  clear a1 a2 l1 l2 m1 m2
  go_enter Tryz.func68, Tryz.ntmps68
  go_wp2
  go_loopw [5] (fun i wr => ∃ k : Nat, k ≤ l.length ∧ i = .int .i64 k ∧ Below w.heap.size w wr) (fun i _ => l.length - (intOf i).toNat)
  case atStart => exact ⟨0, Nat.zero_le _, rfl, Below.refl _ _⟩
  case round =>
    obtain ⟨k, hk, rfl, hb⟩ := hrel
    by_cases hlt : k < l.length
    · obtain ⟨b1, o1, rfl, u1, hu1, p0⟩ := HA1.out k l[k] (List.getElem?_eq_getElem hlt)
      obtain ⟨b2, o2, rfl, u2, hu2, q0⟩ := HA2.out k l[k] (List.getElem?_eq_getElem hlt)
      replace p0 := cell_stays hb p0
      replace q0 := cell_stays hb q0
      have HU1 := Lib.hid (hu1.stays evtAt_stays hb)
      have HU2 := Lib.hid (hu2.stays evtAt_stays hb)
      obtain ⟨A3, c3, rfl, -⟩ := hu1
      obtain ⟨A4, c4, rfl, -⟩ := hu2
      have hk' : (k : Int) < (l.length : Int) := by omega
      obtain ⟨x, hx⟩ : ∃ x, x = l[k] := ⟨_, rfl⟩
      rw [← hx] at p0 q0 HU1 HU2
      clear hx
      rw [Nat.mul_one] at p0 q0
      go_wp2_with fail
      refine wp_region_F (fun W => W.cell? ⟨b1, o1 + k, none⟩ = some (.slice A3 x.length c3) ∧ W.cell? ⟨b2, o2 + k, none⟩ = some (.slice A4 x.length c4)) (by repeat (first | exact grows_cell _ _ _ | exact grows_true | refine grows_and ?_ ?_)) (by kernel_rfl) (by kernel_rfl) ?hF ?_; (case hF => (first | exact ⟨‹_›, ‹_›⟩ | (go_simp; done) | (simp [*]; done) | (repeat' (first | (refine And.intro ?_ ?_) | (go_simp; done) | exact cell_stays (bel_al (Below.refl _ _) _) (by assumption) | assumption)))); intro hne hxx; have hG : Hid (Grows (fun W => W.cell? ⟨b1, o1 + k, none⟩ = some (.slice A3 x.length c3) ∧ W.cell? ⟨b2, o2 + k, none⟩ = some (.slice A4 x.length c4))) := (by repeat (first | exact grows_cell _ _ _ | exact grows_true | refine grows_and ?_ ?_)); (repeat (go_big_quiet_step ((go_at_call 48; exact cls_callB hG (fun W hW => resame_eq x _ _ W (HU1.out.stays evtAt_stays hW) (HU2.out.stays evtAt_stays hW)))))); clear hG hxx hne; refine wpQuiet_nil ?_; rintro _ ⟨⟨w', hb', hF'⟩, rfl⟩
      clear hF'
      go_wp2
      go_roundw
      case rel => exact ⟨k + 1, by omega, by go_num, bel_tr hb hb'⟩
      case measure => simp [intOf]; omega
    · go_wp2
      go_ret
      exact ⟨rfl, hb⟩
set_option maxRecDepth 100000 in
set_option maxHeartbeats 1000000 in
theorem rsameEnv_eq (l : List (List Evt)) (v1 v2 : Value) (w : World) (h1 : IsVars w v1 l) (h2 : IsVars w v2 l) :
    Calls Tryz.prog 24 #[.agg #[v1], .agg #[v2]] w fun e w' => e = .returned (.bool true) ∧ Below w.heap.size w w' := by
  have H1 := Lib.hid h1
  have H2 := Lib.hid h2
  obtain ⟨A1, c1, rfl, -⟩ := h1
  obtain ⟨A2, c2, rfl, -⟩ := h2
  go_enter Tryz.func24, Tryz.ntmps24
  go_wp2_with (go_at_call 68; refine (rasame_eq l _ _ _ (H1.out.stays varAt_stays (by repeat (first | exact Below.refl _ _ | assumption | refine Below.drew ?_ | refine bel_al ?_ _ | refine bel_set ?_ (by omega) _ | refine bel_tr ?_ (by assumption)))) (H2.out.stays varAt_stays (by repeat (first | exact Below.refl _ _ | assumption | refine Below.drew ?_ | refine bel_al ?_ _ | refine bel_set ?_ (by omega) _ | refine bel_tr ?_ (by assumption))))).mono ?_; rintro e w1 ⟨rfl, hb1⟩)
  go_ret
  exact ⟨rfl, bel_tr (bel_tr (bel_one _ _) (bel_one _ _)) hb1⟩
end Go.Proofs.YtclpglgigpjfoaaGreatDoor
