/- ledger.total: the ledger of all entries of some lists. -/
import Derived.Test.YtlofjcicpkfcdaaGreatDoorLtot1
namespace Go.Proofs.YtlofjcicpkfcdaaGreatDoor
open Go.RowKit

def flatL (ls : List (List Ety)) : List Ety := ls.flatten
theorem flatL_take {ls : List (List Ety)} {j : Nat} {l : List Ety} (h : ls[j]? = some l) : flatL (ls.take (j + 1)) = flatL (ls.take j) ++ l := by
  unfold flatL
  rw [take_snoc' h, List.flatten_append]; simp

theorem lit_wf (n : Int) (h0 : 0 ≤ n) (h1 : n ≤ 8192) : (Lit.int .i64 n).wf = true := by
  have hmin : IntKind.i64.min = -9223372036854775808 := by rfl
  have hmax : IntKind.i64.max = 9223372036854775807 := by rfl
  simp only [Lit.wf, Bool.and_eq_true, decide_eq_true_eq, hmin, hmax]
  omega
theorem own_agg (l : List Bnd) (v : Value) (w : World) (hl : IsBnds w v l) (hn : l.length ≤ 1048576) :
    Calls Tryz.prog 29 #[.agg #[v]] w fun e w' => ∃ v', e = .returned (.agg #[v']) ∧ NewBnds w.heap.size w' v' l ∧ Below w.heap.size w w' := own_any l v w hl hn
theorem flatB_mem {bs : List Bnd} {n : Int} (h : n ∈ flatB bs) : ∃ b ∈ bs, n = b.v ∨ n = b.t ∨ n = b.s ∨ n = b.n := by
  induction bs with
  | nil => simp [flatB] at h
  | cons b bs ih =>
    simp only [flatB, List.mem_cons] at h
    rcases h with h | h | h | h | h
    · exact ⟨b, List.mem_cons_self .., .inl h⟩
    · exact ⟨b, List.mem_cons_self .., .inr (.inl h)⟩
    · exact ⟨b, List.mem_cons_self .., .inr (.inr (.inl h))⟩
    · exact ⟨b, List.mem_cons_self .., .inr (.inr (.inr h))⟩
    · obtain ⟨c, hc, h⟩ := ih h; exact ⟨c, List.mem_cons_of_mem _ hc, h⟩
theorem flatB_len (bs : List Bnd) : (flatB bs).length = 4 * bs.length := by
  induction bs with
  | nil => rfl
  | cons b bs ih => simp only [flatB, List.length_cons, ih]; omega
theorem keyT_len {x : Ety} (h : FitE x) : (keyT x.q x.bs).length ≤ 400000 := by
  obtain ⟨hq, hok, hn⟩ := fit_parts h
  have hq' : 0 ≤ x.q ∧ x.q < 16 := by simpa [qOk] using hq
  unfold keyT
  rw [List.length_append]
  have h1 := itoa_len x.q (by omega) (by omega)
  have h2 := numsT_len (l := flatB x.bs) fun n hn => by
    obtain ⟨b, hb, h⟩ := flatB_mem hn
    have := hok b hb
    simp only [bndOk, plB, inI, Bool.and_eq_true, decide_eq_true_eq] at this
    omega
  rw [flatB_len] at h2
  omega
theorem key_lit {x : Ety} (h : FitE x) : keyOf Tryz.prog 9 (.string ⟨(keyT x.q x.bs).toArray⟩) = some (kl x) := by
  have := WideMaps.keyOf_string_mk (P := Tryz.prog) Tryz.underlying9 (s := ⟨(keyT x.q x.bs).toArray⟩) (by
    have := keyT_len h
    show (keyT x.q x.bs).toArray.size ≤ maxLen
    rw [List.size_toArray]; unfold maxLen; omega)
  simpa [kl] using this
theorem cellsE_set {es : List (Ety × Value)} {i : Nat} {e : Ety × Value} (hi : es[i]? = some e) (m : Int) (r : List Value) : (cellsE es ++ r).set (i * 3 + 2) (.int .i64 m) = cellsE (es.set i (⟨e.1.q, e.1.bs, m⟩, e.2)) ++ r := by
  induction es generalizing i with
  | nil => simp at hi
  | cons y es ih =>
    cases i with
    | zero => simp at hi; subst hi; simp [cellsE]
    | succ i =>
      have := ih (i := i) (by simpa using hi)
      rw [show (i + 1) * 3 + 2 = i * 3 + 2 + 3 by omega]
      simp only [cellsE, List.cons_append, List.set_cons_succ, this]
theorem TW.app {w w6 w7 : World} {av v7 u : Value} {es : List (Ety × Value)} {n : Nat} {D : DW} {x : Ety} {o : Obj} (h : TW w w6 av es n D) (hu : IsBnds w6 u x.bs) (hub : ∀ g, u.ownBlock = some g → w.heap.size + 1 ≤ g ∧ g < w6.heap.size ∧ some g ≠ av.ownBlock)
    (hown : w7.ownsRow (w.heap.size + 1) 45 3 v7 (es.length + 1) (cellsE es ++ [.int .i64 x.q, u, .int .i64 0])) (hg : (w6.alloc o).grownBy w7 av.ownBlock) (hloc : v7.ownBlock = av.ownBlock ∨ v7.ownBlock = some (w6.alloc o).heap.size) :
    TW w w7 v7 (es ++ [(⟨x.q, x.bs, 0⟩, u)]) n D := by
  have hkeep : ∀ g, g < w6.heap.size → some g ≠ av.ownBlock → w7.heap[g]? = w6.heap[g]? := fun g h1 h2 => (hg.block g (by simp; omega) h2).trans (Below.heap_alloc w6 o g h1)
  have hsz : w6.heap.size < w7.heap.size := Nat.lt_of_lt_of_le (by simp) hg.size
  have hav : ∀ g, av.ownBlock = some g → w.heap.size + 1 ≤ g := fun g e => (ownsRow_lt h.row e).1
  refine ⟨?_, ?_, ?_, ?_⟩
  · rw [List.length_append, List.length_singleton, cellsE_app]; exact hown
  · intro e he
    have h0 : IsBnds w6 e.2 e.1.bs ∧ ∀ g, e.2.ownBlock = some g → w.heap.size + 1 ≤ g ∧ g < w6.heap.size ∧ some g ≠ av.ownBlock := by
      rcases List.mem_append.1 he with he | he
      · exact h.bnds e he
      · simp at he; subst he; exact ⟨hu, hub⟩
    refine ⟨sl_kept h0.1 fun g hg1 => hkeep g (h0.2 g hg1).2.1 (h0.2 g hg1).2.2, fun g hg1 => ?_⟩
    have h1 := h0.2 g hg1
    refine ⟨h1.1, by omega, ?_⟩
    rcases hloc with hl | hl
    · rw [hl]; exact h1.2.2
    · rw [hl]; simp; omega
  · have hm := h.map.lt
    refine (h.map.alloc o).kept hg ?_
    intro e
    have := hav _ e.symm
    omega
  · exact (bel_al h.below o).trans (grown_below hg (by have := h.below.size; simp; omega) fun g e => by have := hav g e; omega)

/-- one more count in place -/
theorem TW.bump {w wr : World} {g cap : Nat} {es : List (Ety × Value)} {n : Nat} {D : DW} (h : TW w wr (.slice (some ⟨g, 0, none⟩) es.length cap) es n D) {i : Nat} {e : Ety × Value} (hi : es[i]? = some e) (m : Int) :
    TW w (wr.setCell ⟨g, i * 3 + 2, none⟩ (.int .i64 m)) (.slice (some ⟨g, 0, none⟩) (es.set i (⟨e.1.q, e.1.bs, m⟩, e.2)).length cap) (es.set i (⟨e.1.q, e.1.bs, m⟩, e.2)) n D := by
  have hlt : i < es.length := (List.getElem?_eq_some_iff.1 hi).1
  obtain ⟨g', cap', spare, hv, hbg, hh, hnc, hcm⟩ := own_form h.row (by omega)
  injection hv with h1 h2 h3
  injection h1 with h1
  injection h1 with h1
  subst h1 h3
  have hgs : g < wr.heap.size := blk_lt hh
  rcases h.row.2 with ⟨hv, _⟩ | ⟨g2, cap2, cur, hv, _, hh2, _, _, hcs, htake⟩
  · cases hv
  injection hv with h1 h2 h3
  injection h1 with h1
  injection h1 with h1
  subst h1 h3
  rw [hh2] at hh
  injection hh with hh
  injection hh with hh _ _
  subst hh
  refine ⟨⟨by rw [cellsE_len], .inr ⟨g, cap, _, rfl, hbg, blk_set hh2 _ _, by rw [List.length_set]; exact hnc, hcm, ?_, ?_⟩⟩, ?_, ?_, ?_⟩
  · simp only [List.size_toArray, List.length_set] at hcs ⊢; exact hcs
  · simp only [List.toList_toArray]
    rw [cellsE_set hi, List.take_append_of_le_length (by rw [cellsE_len]; exact Nat.le_refl _), List.take_of_length_le (by rw [cellsE_len]; exact Nat.le_refl _)]
  · intro y hy
    have hy' : ∃ y0 ∈ es, y.1.bs = y0.1.bs ∧ y.2 = y0.2 := by
      rcases List.mem_or_eq_of_mem_set hy with hy | rfl
      · exact ⟨y, hy, rfl, rfl⟩
      · exact ⟨e, List.mem_of_getElem? hi, rfl, rfl⟩
    obtain ⟨y0, hm0, e1, e2⟩ := hy'
    rw [e1, e2]
    have h0 := h.bnds y0 hm0
    refine ⟨sl_kept h0.1 fun g1 hg1 => Below.heap_setCell _ _ _ _ (fun e => (h0.2 g1 hg1).2.2 (by rw [e]; rfl)), fun g1 hg1 => ?_⟩
    have := h0.2 g1 hg1
    exact ⟨this.1, by simpa using this.2.1, this.2.2⟩
  · exact h.map.kept (set_grown wr g (i * 3 + 2) (.int .i64 m)) (by simp; omega)
  · exact h.below.setCell (p := ⟨g, i * 3 + 2, none⟩) (by simp only; omega) _

theorem deleteNil_any (w : World) : Calls Tryz.prog 46 #[.slice none 0 0, .func (.func 47) #[] #[]] w fun e W => e = .returned (.slice none 0 0) ∧ Below w.heap.size w W := by
  have hix := indexEnts_any 47 [] (fun x => x.n == 0) [] (.slice none 0 0) w (Sl.nil _ _ _ _ _ (Nat.zero_le _)) enter_zero (fun W x u hW hx hu => by simp at hx)
  have hf : firstI (fun x : Ety => x.n == 0) [] = -1 := rfl
  have HIX := Lib.hid hix
  have HF := Lib.hid hf
  clear hix hf
  go_enter Tryz.func46, Tryz.ntmps46
  go_wp2_with (go_at_call 58; refine HIX.out.mono ?_; rw [HF.out]; rintro e w1 ⟨rfl, hb1⟩)
  go_ret
  exact ⟨rfl, hb1⟩
theorem sortNil_any (w : World) : Calls Tryz.prog 48 #[.slice none 0 0, .func (.func 33) #[] #[]] w fun e W => e = .returned (.tuple #[]) ∧ Below w.heap.size w W := by
  have h := AnyF.slices_SortFunc_none Tryz.sortEnt none 0 (.func (.func 33) #[] #[]) w
  change Calls Tryz.prog 48 _ _ _ at h
  refine h.mono ?_
  rintro e W ⟨rfl, rfl⟩
  exact ⟨rfl, Below.refl _ _⟩

set_option maxRecDepth 100000 in
set_option maxHeartbeats 4000000 in
theorem total_new (ls : List (List Ety)) (v : Value) (w : World) (hl : IsLeds w v ls) (htab : Tab w) (hfit : ∀ l ∈ ls, ∀ x ∈ l, FitE x) (hlen : (flatL ls).length ≤ 8192) :
    Calls Tryz.prog 23 #[v] w fun e w' => ∃ v', e = .returned v' ∧ NewEnts (w.heap.size + 1) w' v' (sumE [] (flatL ls)) ∧ Below w.heap.size w w' := by
  obtain ⟨A, c, rfl, h1, h2, hat⟩ := hl
  have hn := len_i64 h1 h2
  have HL := Lib.hid hat
  have HT := Lib.hid htab
  have HFIT := Lib.hid hfit
  have K9 : Maps.Keyed Tryz.prog 9 := Maps.string_keyed Tryz.underlying9
  obtain ⟨j0, hj0, hy0, hy1, hy2⟩ := info_parts info_ent
  clear hat h1 h2 htab hfit
  have hmm := @run_makeMap Tryz.prog
  go_enter Tryz.func23, Tryz.ntmps23
  go_wp2_with fail
  go_loopw [4, 15] (fun av i wr => ∃ (j : Nat) (es : List (Ety × Value)) (D : DW), j ≤ ls.length ∧ i = .int .i64 j ∧ Hid (TP (flatL (ls.take j)) es ∧ MapIs D es ∧ TW w wr av es es.length D)) (fun _ i _ => ls.length - (intOf i).toNat)
  case atStart => exact ⟨0, [], .map [], Nat.zero_le _, rfl, Lib.hid ⟨TP.nil, MapIs.nil, ⟨⟨by simp [cellsE], .inl ⟨rfl, rfl⟩⟩, by simp, World.ownsMap_made w _ _ _, bel_one _ _⟩⟩⟩
  case round =>
    obtain ⟨j, es, D, hj, rfl, hI⟩ := hrel
    by_cases hlt : j < ls.length
    · have hj' : (j : Int) < (ls.length : Int) := by omega
      obtain ⟨b, o, rfl, u, hu, c0⟩ := HL.out j ls[j] (List.getElem?_eq_getElem hlt)
      simp only [Nat.mul_one] at c0
      replace c0 := cell_stays hI.out.2.2.below c0
      have hget := Lib.hid (List.getElem?_eq_getElem hlt)
      have hfl := HFIT.out ls[j] (List.getElem_mem hlt)
      obtain ⟨l, hx⟩ : ∃ l, l = ls[j] := ⟨_, rfl⟩
      rw [← hx] at hget hu hfl
      obtain ⟨A', c', rfl, g1, g2, hat⟩ := hu
      have hn2 := len_i64 g1 g2
      have HL2 := Lib.hid hat
      have HFL := Lib.hid hfl
      have hll : (flatL (ls.take j)).length + l.length ≤ 8192 := by
        have e1 := flatL_take hget.out
        have e2 : flatL ls = flatL (ls.take (j + 1)) ++ flatL (ls.drop (j + 1)) := by unfold flatL; rw [← List.flatten_append, List.take_append_drop]
        have e3 := congrArg List.length e2
        rw [List.length_append, e1, List.length_append] at e3
        omega
      clear hx hat g1 g2 hfl
      go_wp2_with fail
      go_loopw [4, 21] (fun av2 i2 wq => ∃ (k : Nat) (es2 : List (Ety × Value)) (D2 : DW), k ≤ l.length ∧ i2 = .int .i64 k ∧ Hid (TP (flatL (ls.take j) ++ l.take k) es2 ∧ MapIs D2 es2 ∧ TW w wq av2 es2 es2.length D2)) (fun _ i2 _ => l.length - (intOf i2).toNat)
      case atStart => exact ⟨0, es, D, Nat.zero_le _, rfl, by rw [List.take_zero, List.append_nil]; exact hI⟩
      case round =>
        obtain ⟨k, es2, D2, hk, rfl, hJ⟩ := hrel
        clear c0
        by_cases hkl : k < l.length
        · have hk' : (k : Int) < (l.length : Int) := by omega
          obtain ⟨b2, o2, rfl, u2, hu2, c0, c1, c2⟩ := HL2.out k l[k] (List.getElem?_eq_getElem hkl)
          replace c0 := cell_stays hJ.out.2.2.below c0
          replace c1 := cell_stays hJ.out.2.2.below c1
          replace c2 := cell_stays hJ.out.2.2.below c2
          have hu3 := hu2.stays bndAt_stays hJ.out.2.2.below
          have hget2 := Lib.hid (List.getElem?_eq_getElem hkl)
          have hfx := HFL.out l[k] (List.getElem_mem hkl)
          obtain ⟨x, hx⟩ : ∃ x, x = l[k] := ⟨_, rfl⟩
          rw [← hx] at hget2 hu2 hu3 c0 c2 hfx
          have HU0 := Lib.hid hu2
          obtain ⟨A2, cc2, rfl, -⟩ := hu2
          have HU := Lib.hid hu3
          have HFX := Lib.hid hfx
          have hbl : b2 < wr.heap.size := World.block_lt_of_cell? wr ⟨b2, _, none⟩ c0
          have hnb : b2 ≠ wr.heap.size := by omega
          have hnb' : wr.heap.size ≠ b2 := by omega
          have hes8 : es2.length ≤ 8192 := by
            have := hJ.out.1.few
            rw [List.length_append, List.length_take] at this
            omega
          clear hx hu3 hfx
          have hkey := key_lit HFX.out
          have hz3 := Tryz.zeroValue3
          have hsum : ∀ e ∈ es2, -9223372036854775808 ≤ e.1.n + x.n ∧ e.1.n + x.n ≤ 9223372036854775807 ∧ -9223372036854775808 ≤ e.1.n ∧ e.1.n ≤ 9223372036854775807 := fun e he => by
            have h1 := hJ.out.1.wt e he
            have h2 := HFX.out.2
            have h3 : (flatL (ls.take j) ++ l.take k).length ≤ 8192 := by rw [List.length_append, List.length_take]; omega
            have h4 : ((flatL (ls.take j) ++ l.take k).length * 1099511627776 : Int) ≤ 8192 * 1099511627776 := by omega
            omega
          have HSUM := Lib.hid hsum
          clear hsum
          by_cases hhas : Maps.has D2 (kl x) = true
          · obtain ⟨i, e, hie, hke⟩ := hJ.out.2.1.miss x hhas
            have HCL : Hid (∀ cL : Int, D2.atKey (kl x) (.lit (.int .i64 0)) = .lit (.int .i64 cL) → cL = (i : Int)) := Lib.hid fun cL hat => by
              have := (hJ.out.2.1.hit i e hie).2 (.lit (.int .i64 0))
              rw [hke, hat] at this
              injection this with this
              injection this
            have hil : i < es2.length := (List.getElem?_eq_some_iff.1 hie).1
            have hil' : (i : Int) < (es2.length : Int) := by omega
            obtain ⟨g, cap, spare, rfl, hbg, hgh, hnc, hcm⟩ := own_form hJ.out.2.2.row (by omega)
            have hsm := HSUM.out e (List.mem_of_getElem? hie)
            have hw0 : IntKind.i64.wrap (e.1.n + x.n) = e.1.n + x.n := IntWalk.i64_in _ ⟨by omega, by omega⟩
            have HHAS := Lib.hid hhas
            have HIE := Lib.hid hie
            have HKE := Lib.hid hke
            have zc : wr.cell? ⟨g, i * 3 + 2, none⟩ = some (.int .i64 e.1.n) := by rw [blk_cell hgh]; exact (cellsE_at hie spare).2.2
            have HGH := Lib.hid hgh
            have hgl : g < wr.heap.size := blk_lt hgh
            clear hhas hie hke hgh hsm
            go_wp2_with (first | (go_at_call 45; refine calls_gen fun W9 e9 => ?_; have y0 : W9.cell? ⟨wr.heap.size, 0, none⟩ = some (.int .i64 x.q) := (by rw [e9]; go_simp); have y1 : W9.cell? ⟨wr.heap.size, 1, none⟩ = some (.slice A2 x.bs.length cc2) := (by rw [e9]; go_simp); have y2 : W9.cell? ⟨wr.heap.size, 2, none⟩ = some (.int .i64 x.n) := (by rw [e9]; go_simp); have hb9 : Below wr.heap.size wr W9 := (by rw [e9]; exact (by repeat (first | exact Below.refl _ _ | assumption | refine Below.drew ?_ | refine bel_al ?_ _ | refine bel_set ?_ (by omega) _ | refine bel_tr ?_ (by assumption)))); clear e9; refine (key_any x.q x.bs _ W9 (HU.out.stays bndAt_stays hb9) (HT.out.stays (bel_tr hJ.out.2.2.below hb9)) (fit_parts HFX.out).1 (fit_parts HFX.out).2.1 (fit_parts HFX.out).2.2).mono ?_; rintro e w4 ⟨rfl, hg4⟩; have hb4 := bel_tr hb9 hg4; replace y0 := cell_stays hg4 y0; replace y1 := cell_stays hg4 y1; replace y2 := cell_stays hg4 y2) | (at_lookup; refine wpList_lookup_own_ok_int _ rfl _ _ 82 rfl 9 3 .i64 K9 Tryz.underlying82 Tryz.underlying3 (hz3 _) w.heap.size es2.length D2 rfl (hJ.out.2.2.grow hb4).map _ _ rfl hkey ?_; intro cL hat hwc; obtain rfl := HCL.out cL hat; rw [HHAS.out]))
            have zc4 := cell_stays hb4 zc
            have zf4 : w4.frozen? ⟨g, i * 3 + 2, none⟩ = false := (World.frozen?_of_block (a := ⟨g, i * 3 + 2, none⟩) (hb4.block g hgl)).trans (blk_frozen HGH.out _)
            go_region
            all_goals
              go_wp2_with fail
              go_roundw
              case rel =>
                have hT := (hJ.out.2.2.grow hb4).bump HIE.out (e.1.n + x.n)
                refine ⟨k + 1, es2.set i (⟨e.1.q, e.1.bs, e.1.n + x.n⟩, e.2), D2, by omega, by go_num, Lib.hid ⟨?_, hJ.out.2.1.set HIE.out (kl_eq.2 ⟨rfl, rfl⟩), ?_⟩⟩
                · rw [take_snoc' hget2.out, ← List.append_assoc]
                  exact hJ.out.1.set HFX.out HIE.out HKE.out
                · have h5 := hT.grow (Below.refl _ _).drew
                  rw [List.length_set] at h5 ⊢
                  exact h5
              case measure => simp [intOf]; omega
          · have hno : Maps.has D2 (kl x) = false := by simpa using hhas
            have hnoe : ∀ e ∈ es2, kl e.1 ≠ kl x := fun e he h => by
              obtain ⟨i, hi⟩ := List.mem_iff_getElem?.1 he
              have := (hJ.out.2.1.hit i e hi).1
              rw [h, hno] at this
              exact absurd this (by decide)
            have HNO := Lib.hid hno
            have HNOE := Lib.hid hnoe
            obtain ⟨A4, c4, rfl⟩ := slice_own hJ.out.2.2.row
            have hwf : (Lit.int .i64 (es2.length : Int)).wf = true := lit_wf _ (by omega) (by omega)
            clear hno hnoe hhas
            go_wp2_with (first | (go_at_call 45; refine calls_gen fun W9 e9 => ?_; have y0 : W9.cell? ⟨wr.heap.size, 0, none⟩ = some (.int .i64 x.q) := (by rw [e9]; go_simp); have y1 : W9.cell? ⟨wr.heap.size, 1, none⟩ = some (.slice A2 x.bs.length cc2) := (by rw [e9]; go_simp); have y2 : W9.cell? ⟨wr.heap.size, 2, none⟩ = some (.int .i64 x.n) := (by rw [e9]; go_simp); have hb9 : Below wr.heap.size wr W9 := (by rw [e9]; exact (by repeat (first | exact Below.refl _ _ | assumption | refine Below.drew ?_ | refine bel_al ?_ _ | refine bel_set ?_ (by omega) _ | refine bel_tr ?_ (by assumption)))); clear e9; refine (key_any x.q x.bs _ W9 (HU.out.stays bndAt_stays hb9) (HT.out.stays (bel_tr hJ.out.2.2.below hb9)) (fit_parts HFX.out).1 (fit_parts HFX.out).2.1 (fit_parts HFX.out).2.2).mono ?_; rintro e w4 ⟨rfl, hg4⟩; have hb4 := bel_tr hb9 hg4; replace y0 := cell_stays hg4 y0; replace y1 := cell_stays hg4 y1; replace y2 := cell_stays hg4 y2) | (at_lookup; refine wpList_lookup_own_ok_int _ rfl _ _ 82 rfl 9 3 .i64 K9 Tryz.underlying82 Tryz.underlying3 (hz3 _) w.heap.size es2.length D2 rfl (hJ.out.2.2.grow hb4).map _ _ rfl hkey ?_; intro cL hat hwc; rw [HNO.out]) | (at_mapUpdate; refine wpList_mapUpdate_own _ rfl _ _ _ 82 rfl 9 3 K9 Tryz.underlying82 (plainElem Tryz.prog 3) w.heap.size es2.length D2 rfl (hJ.out.2.2.grow hb4).map (by unfold maxLen; omega) _ _ (kl x) rfl rfl hkey (.lit (.int .i64 (es2.length : Int))) [] (plainElem_int Tryz.underlying3 hwf) ?_; intro w5 hm5 hg5))
            have hT5 := (hJ.out.2.2.grow hb4).put hg5 hm5
            have hbx : ∀ r, w5.cell? ⟨wr.heap.size, r, none⟩ = w4.cell? ⟨wr.heap.size, r, none⟩ := fun r => World.cell?_of_block (a := ⟨wr.heap.size, r, none⟩) (hg5.block wr.heap.size (World.block_lt_of_cell? w4 ⟨wr.heap.size, 0, none⟩ y0) (by have := hJ.out.2.2.map.lt; simp; omega))
            have z0 := (hbx 0).trans y0
            have z1 := (hbx 1).trans y1
            have z2 := (hbx 2).trans y2
            have HT5 := Lib.hid hT5
            have hw5 : Below w.heap.size w w5 := hT5.below
            have HU5 : Hid (IsBnds w5 (.slice A2 x.bs.length cc2) x.bs) := Lib.hid (HU0.out.stays bndAt_stays hw5)
            clear hT5 hbx hm5 hg5
            have hGN : Hid (∀ g, (Value.slice A4 es2.length c4).ownBlock = some g → g < wr.heap.size) := Lib.hid fun g h => (ownsRow_lt hJ.out.2.2.row h).2
            have hFF : Hid ((fun W => W.cell? ⟨wr.heap.size, 0, none⟩ = some (.int .i64 x.q) ∧ W.cell? ⟨wr.heap.size, 1, none⟩ = some (.slice A2 x.bs.length cc2)) w5) := Lib.hid ⟨z0, z1⟩
            have hGG : Hid (Grows (fun W => W.cell? ⟨wr.heap.size, 0, none⟩ = some (.int .i64 x.q) ∧ W.cell? ⟨wr.heap.size, 1, none⟩ = some (.slice A2 x.bs.length cc2))) := (by repeat (first | exact grows_cell _ _ _ | exact grows_true | refine grows_and ?_ ?_))
            go_region_held3 (fun W => W.cell? ⟨wr.heap.size, 0, none⟩ = some (.int .i64 x.q) ∧ W.cell? ⟨wr.heap.size, 1, none⟩ = some (.slice A2 x.bs.length cc2)) (first | exact ⟨q0, q1⟩ | with_reducible exact hGG.out.to (by repeat (first | with_reducible exact Below.refl _ _ | assumption | with_reducible refine Below.drew ?_ | with_reducible refine bel_al ?_ _ | with_reducible refine bel_tr ?_ (by assumption))) hFF.out) (first | (go_at_call 29; refine calls_gen fun W8 e8 => ?_; have hb8 : Below w5.heap.size w5 W8 := (by rw [e8]; exact (by repeat (first | exact Below.refl _ _ | assumption | refine Below.drew ?_ | refine bel_al ?_ _ | refine bel_set ?_ (by omega) _ | refine bel_tr ?_ (by assumption)))); clear e8; refine (own_agg x.bs _ W8 (HU5.out.stays bndAt_stays hb8) (by have := (fit_parts HFX.out).2.2; omega)).mono ?_; rintro e w6 ⟨v6, rfl, hnb6, hb6⟩; have hb56 := bel_tr hb8 hb6; obtain ⟨A6, c6, hv6⟩ : ∃ A c, v6 = .slice A x.bs.length c := (by obtain ⟨A, c, h, -⟩ := hnb6.1; exact ⟨A, c, h⟩); subst hv6) | (change Oper.wp _ _ _ _ _ _; refine at_app _ (.tmp 43) (.tmp 50) 22 rfl (w.heap.size + 1) 45 j0 _ 3 40 Tryz.underlying22 hj0 hy0 hy1 hy2 rfl (by decide) (.slice A4 es2.length c4) es2.length (cellsE es2) (by rfl) (ownsRow_below (HT5.out.grow hb56).row (by repeat (first | exact Below.refl _ _ | assumption | refine Below.drew ?_ | refine bel_al ?_ _ | refine bel_set ?_ (by omega) _ | refine bel_tr ?_ (by assumption)))) (some ⟨w6.heap.size, 0, none⟩) 1 1 [.int .i64 x.q, .slice A6 x.bs.length c6, .int .i64 0] (by rfl) (Src.stays (src_new w6 [.int .i64 x.q, .slice A6 x.bs.length c6, .int .i64 0] 45 1 3 rfl (by simp [Value.oneCell'])) (by repeat (first | exact Below.refl _ _ | assumption | refine Below.drew ?_ | refine bel_al ?_ _ | refine bel_set ?_ (by omega) _ | refine bel_tr ?_ (by assumption)))) (by unfold maxLen; omega) (by omega) (by have h1 := HT5.out.map.lt; have h2 := hb56.size; simp; omega) ?_; intro v7 w7 hown7 hg7 hloc7; have hlt7 : wr.heap.size < w6.heap.size := Nat.lt_of_lt_of_le (World.block_lt_of_cell? w5 ⟨wr.heap.size, 0, none⟩ z0) hb56.size; have hbq : ∀ r, w7.cell? ⟨wr.heap.size, r, none⟩ = w6.cell? ⟨wr.heap.size, r, none⟩ := (fun r => World.cell?_of_block (a := ⟨wr.heap.size, r, none⟩) ((hg7.block wr.heap.size (by simp; omega) (fun e => absurd (hGN.out _ e.symm) (by omega))).trans (Below.heap_alloc w6 _ _ hlt7))); have q0 := (hbq 0).trans (cell_stays hb56 z0); have q1 := (hbq 1).trans (cell_stays hb56 z1)))
            have hTA := TW.app (x := x) (HT5.out.grow hb56) hnb6.1 (fun g hg1 => by
              have h1 := hnb6.2 g hg1
              have h2 := HT5.out.below.size
              have h3 := hb8.size
              have h4 := hJ.out.2.2.map.lt
              have h6 := World.block_lt_of_cell? w5 ⟨wr.heap.size, 0, none⟩ z0
              simp only at h6
              exact ⟨by omega, h1.2, fun e => by have := hGN.out g e.symm; omega⟩) hown7 hg7 hloc7
            have hlen7 : 0 < (es2 ++ [((⟨x.q, x.bs, 0⟩ : Ety), Value.slice A6 x.bs.length c6)]).length := by simp
            obtain ⟨g, cap, spare, hv7, hbg, hgh, hnc, hcm⟩ := own_form hTA.row hlen7
            subst hv7
            have hie : (es2 ++ [((⟨x.q, x.bs, 0⟩ : Ety), Value.slice A6 x.bs.length c6)])[es2.length]? = some (⟨x.q, x.bs, 0⟩, .slice A6 x.bs.length c6) := by simp
            have zc4 : w7.cell? ⟨g, es2.length * 3 + 2, none⟩ = some (.int .i64 0) := by rw [blk_cell hgh]; exact (cellsE_at hie spare).2.2
            have zf4 := blk_frozen hgh (es2.length * 3 + 2)
            have q2 := (hbq 2).trans (cell_stays hb56 z2)
            have hxw : IntKind.i64.wrap x.n = x.n := IntWalk.i64_in _ (by have := HFX.out.2; omega)
            have hel : (es2.length : Int) < ((es2 ++ [((⟨x.q, x.bs, 0⟩ : Ety), Value.slice A6 x.bs.length c6)]).length : Int) := by simp; omega
            have hel1 : (es2.length : Int) < (es2.length : Int) + 1 := by omega
            have HTA := Lib.hid hTA
            have HIE := Lib.hid hie
            clear hTA hie hgh hown7 hg7 hloc7 hbq hnb6
            go_wp2_with fail
            go_region
            all_goals
              go_wp2_with fail
              go_roundw
              case rel =>
                have hT := HTA.out.bump HIE.out x.n
                have he1 : (es2 ++ [((⟨x.q, x.bs, 0⟩ : Ety), Value.slice A6 x.bs.length c6)]).set es2.length (⟨x.q, x.bs, x.n⟩, .slice A6 x.bs.length c6) = es2 ++ [(x, .slice A6 x.bs.length c6)] := by
                  rw [List.set_append_right _ _ (Nat.le_refl _)]; simp
                rw [he1] at hT
                refine ⟨k + 1, es2 ++ [(x, .slice A6 x.bs.length c6)], _, by omega, by go_num, Lib.hid ⟨?_, hJ.out.2.1.app (e := (x, .slice A6 x.bs.length c6)) HNO.out, ?_⟩⟩
                · rw [take_snoc' hget2.out, ← List.append_assoc]
                  exact hJ.out.1.app HFX.out _ HNOE.out
                · have h5 := hT.grow (Below.refl _ _).drew
                  simpa using h5
              case measure => simp [intOf]; omega
        · have hk' : ¬ (k : Int) < (l.length : Int) := by omega
          have hke : k = l.length := by omega
          have hJ' := hJ.out
          rw [hke, List.take_length, ← flatL_take hget.out] at hJ'
          have HJ := Lib.hid hJ'
          clear hJ hJ'
          go_wp2_with fail
          go_roundw
          case rel => exact ⟨j + 1, es2, D2, by omega, by go_num, HJ⟩
          case measure => simp [intOf]; omega
    · have hj' : ¬ (j : Int) < (ls.length : Int) := by omega
      have hje : j = ls.length := by omega
      have hI' := hI.out
      rw [hje, List.take_length] at hI'
      have HI := Lib.hid hI'
      clear hI hI' hje
      have hT := HI.out.2.2
      rcases hT.row.2 with ⟨hv, h0⟩ | ⟨g, cap, cur, hv, hbg, hh, hnc, hcm, hcs, htake⟩
      · have he0 : es = [] := List.eq_nil_of_length_eq_zero h0
        subst he0
        have HR : Hid (sumE [] (flatL ls) = []) := Lib.hid (led_is Led.nil Led.nil fun q bs => by rw [← HI.out.1.cnts q bs]; rfl).symm
        have hbw := hT.below
        subst hv
        clear hT h0
        go_wp2_with (first | (go_at_call 46; refine (deleteNil_any _).mono ?_; rintro e w2 ⟨rfl, hb2⟩) | (go_at_call 48; refine (sortNil_any _).mono ?_; rintro e w3 ⟨rfl, hb3⟩))
        go_ret
        rw [HR.out]
        exact ⟨_, rfl, Sl.nil _ _ _ _ _ (Nat.zero_le _), bel_tr (bel_tr hbw hb2) hb3⟩
      · subst hv
        have hcur : cur = (cellsE es ++ cur.toList.drop (es.length * 3)).toArray := by rw [← htake, List.take_append_drop]
        have hh' : wr.heap[g]? = some (.cells (cellsE es ++ cur.toList.drop (es.length * 3)).toArray 45 (0, 0)) := by rw [← hcur]; exact hh
        have hl' : (cellsE es ++ cur.toList.drop (es.length * 3)).length = cap * 3 := by
          have := congrArg Array.size hcur
          rw [hcs, List.size_toArray] at this
          exact this.symm
        have HD := Lib.hid (deleteEnts_any es g cap _ wr hh' hnc hcm hl' (fun e he => ⟨(hT.bnds e he).1, fun e1 => ((hT.bnds e he).2 g e1).2.2 rfl⟩))
        have hgw : w.heap.size + 1 ≤ g := hbg
        have hes8 : es.length ≤ 8192 := Nat.le_trans HI.out.1.few hlen
        clear hcur hh hh' hl' htake hcs
        go_wp2_with (go_at_call 46; refine HD.out.mono ?_; rintro e w2 ⟨spare2, rfl, hg2, hl2, hgr2⟩; have HSO := Lib.hid (sortEnts_any (es.filter nzE) g cap spare2 w2 hg2 (Nat.le_trans (List.length_filter_le _ _) hnc) hcm (by have := List.length_filter_le nzE es; omega) (fun e he => (by have hm := (List.mem_filter.1 he).1; have hb := hT.bnds e hm; exact ⟨sl_kept hb.1 (fun g1 hg1 => hgr2.block g1 (hb.2 g1 hg1).2.1 (hb.2 g1 hg1).2.2), fun e1 => (hb.2 g e1).2.2 rfl⟩))); clear hg2 hl2)
        refine HSO.out.mono ?_
        rintro _ w3 ⟨rfl, T, hp, hso, -, hgr3, hnew⟩
        have hT3 := hnew (w.heap.size + 1) hgw fun e he b hb => ((hT.bnds e (List.mem_filter.1 he).1).2 b hb).1
        clear hnew
        have hTT : T = sumE [] (flatL ls) := by
          have hfm : (es.filter nzE).map (·.1) = (es.map (·.1)).filter (fun x => x.n != 0) := by
            rw [List.filter_map]; rfl
          refine led_is ⟨?_, ?_⟩ Led.nil fun q bs => ?_
          · have hap : T.Pairwise (fun a b => entC a b ≠ 0) := by
              have h1 : ((es.filter nzE).map (·.1)).Pairwise (fun a b => entC a b ≠ 0) := by
                rw [hfm]
                refine List.Pairwise.sublist List.filter_sublist ?_
                have := HI.out.1.apart
                rw [List.pairwise_map] at this ⊢
                exact this.imp fun hne h0 => hne (kl_eq.2 (entC_eq.1 h0))
              exact (hp.pairwise_iff (fun hab h0 => hab (entC_pc.sym h0))).2 h1
            exact hap.imp₂ (fun a b h1 h2 => by have := entC_pc.anti a b; omega) hso
          · intro x hx
            have := hp.mem_iff.1 hx
            rw [hfm] at this
            simpa using (List.mem_filter.1 this).2
          · rw [cnt_perm hp, hfm, cnt_filter, HI.out.1.cnts]
            show _ = 0 + _
            omega
        subst hTT
        have HT3 := Lib.hid hT3
        have hbw : Below w.heap.size w w3 := hT.below.trans ((grown_below hgr2 (by have := hT.below.size; omega) (fun g1 e => by injection e with e; omega)).trans (grown_below hgr3 (by have := hT.below.size; have := hgr2.size; omega) (fun g1 e => by injection e with e; omega)))
        clear hT3 hp hso hgr3 hgr2
        go_wp2_with fail
        go_ret
        exact ⟨_, rfl, HT3.out, hbw⟩
theorem total_any (ls : List (List Ety)) (v : Value) (w : World) (hl : IsLeds w v ls) (htab : Tab w) (hfit : ∀ l ∈ ls, ∀ x ∈ l, FitE x) (hlen : (flatL ls).length ≤ 8192) :
    Calls Tryz.prog 23 #[v] w fun e w' => ∃ v', e = .returned v' ∧ IsEnts w' v' (sumE [] (flatL ls)) ∧ Below w.heap.size w w' :=
  (total_new ls v w hl htab hfit hlen).mono fun _ _ ⟨v', h1, h2, h3⟩ => ⟨v', h1, h2.is, h3⟩
end Go.Proofs.YtlofjcicpkfcdaaGreatDoor
