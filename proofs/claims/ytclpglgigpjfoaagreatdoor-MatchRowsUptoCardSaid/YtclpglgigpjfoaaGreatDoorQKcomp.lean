/- Collected by program (collect.py) out of my templates Lled Lidx Lled2 Lown Ldel Lnew Lsort Lkey Lkey2 Ltot1 Ltot2 Lled3 Lfun Lapp Lstand Ldiff Lrev Lcomp Lsortm Lstep Ldiff2 Lpl2 Ldiff3 Lsingle Lsame Lsame2 Lawake Lmsort Lof Lradd Lfew Lsmall Llaws Lrsum Lrput Lrsort: what the contracts compact_any, comp_ok, sortM_ok, sortM_is, sortR, comp_is lean on. -/
import Derived.Test.YtclpglgigpjfoaaGreatDoorQKown
import Derived.Shelf.GgSortFunc.RowK
import Derived.Lib.SliceRun
import Derived.Shelf.Abstract
namespace Go.Proofs.YtclpglgigpjfoaaGreatDoor
section
open Go.RowKit
theorem sl_kept {w w' : World} {v : Value} {l : List Bnd} (h : IsBnds w v l) (hk : ∀ g, v.ownBlock = some g → w'.heap[g]? = w.heap[g]?) : IsBnds w' v l := by
  obtain ⟨A, c, rfl, h1, h2, h3⟩ := h
  refine ⟨A, c, rfl, h1, h2, fun k x hx => ?_⟩
  obtain ⟨b, o, rfl, c0, c1, c2, c3⟩ := h3 k x hx
  have hb := hk b rfl
  have hc : ∀ i, w'.cell? ⟨b, i, none⟩ = w.cell? ⟨b, i, none⟩ := fun i => World.cell?_of_block (a := ⟨b, i, none⟩) hb
  exact ⟨b, o, rfl, by rw [hc]; exact c0, by rw [hc]; exact c1, by rw [hc]; exact c2, by rw [hc]; exact c3⟩
theorem bnds_lt {w : World} {v : Value} {l : List Bnd} (h : IsBnds w v l) (hl : l ≠ []) : ∃ g, v.ownBlock = some g ∧ g < w.heap.size := by
  obtain ⟨A, c, rfl, h1, h2, h3⟩ := h
  cases l with
  | nil => exact absurd rfl hl
  | cons x l =>
    obtain ⟨b, o, rfl, c0, _⟩ := h3 0 x rfl
    exact ⟨b, rfl, World.block_lt_of_cell? w ⟨b, _, none⟩ c0⟩
theorem sl_kept' {w w' : World} {v : Value} {l : List Bnd} (h : IsBnds w v l) (hk : ∀ g, g < w.heap.size → v.ownBlock = some g → w'.heap[g]? = w.heap[g]?) : IsBnds w' v l := by
  by_cases hl : l = []
  · subst hl
    obtain ⟨A, c, rfl, h1, h2, -⟩ := h
    exact ⟨A, c, rfl, h1, h2, by simp⟩
  · obtain ⟨g, hg, hlt⟩ := bnds_lt h hl
    exact sl_kept h fun g' hg' => by rw [hg] at hg'; injection hg' with hg'; subst hg'; exact hk g hlt hg
end
section
open Go.RowKit Go.Shelf
def MOk (w : World) (g : Nat) (e : MV) : Prop := IsBnds w e.2 e.1 ∧ e.2.ownBlock ≠ some g
/-- the first m, of equal neighbours the first one -/
def compT (l : List MV) : Nat → List MV
  | 0 => []
  | m + 1 => compT l m ++ (match l[m]? with | some e => if m = 0 ∨ (l[m - 1]?.map (·.1)) ≠ some e.1 then [e] else [] | none => [])
theorem compT_new {l : List MV} {m : Nat} {e p : MV} (he : l[m]? = some e) (hp : l[m - 1]? = some p) (_hm : m ≠ 0) (hne : p.1 ≠ e.1) : compT l (m + 1) = compT l m ++ [e] := by
  simp only [compT, he, hp]
  rw [if_pos]
  exact .inr (by simpa using hne)
theorem compT_old {l : List MV} {m : Nat} {e p : MV} (he : l[m]? = some e) (hp : l[m - 1]? = some p) (hm : m ≠ 0) (heq : p.1 = e.1) : compT l (m + 1) = compT l m := by
  simp only [compT, he, hp]
  rw [if_neg (by simp [hm, heq])]
  simp
theorem compT_one {l : List MV} {e : MV} (he : l[0]? = some e) : compT l 1 = [e] := by simp [compT, he]
/-- where neighbours differ, all stay -/
theorem compT_all {l : List MV} : ∀ m, m ≤ l.length → (∀ j p e, j ≠ 0 → j < m → l[j - 1]? = some p → l[j]? = some e → p.1 ≠ e.1) → compT l m = l.take m
  | 0, _, _ => by simp [compT]
  | m + 1, hm, h => by
    have ih := compT_all m (by omega) (fun j p e h0 h1 => h j p e h0 (by omega))
    have he := List.getElem?_eq_getElem (l := l) (i := m) (by omega)
    rw [take_snoc' he, ← ih]
    by_cases h0 : m = 0
    · subst h0; rw [compT_one he]; simp [compT]
    · have hp := List.getElem?_eq_getElem (l := l) (i := m - 1) (by omega)
      exact compT_new he hp h0 (h m _ _ h0 (by omega) hp he)
structure CompOk (l : List MV) (m : Nat) : Prop where
  asc : ((compT l m).map (·.1)).Pairwise (fun a b => bsC a b < 0)
  mem : ∀ k, k ∈ (compT l m).map (·.1) ↔ k ∈ (l.take m).map (·.1)
  last : ∀ e, m ≠ 0 → l[m - 1]? = some e → (∀ k ∈ (compT l m).map (·.1), bsC k e.1 ≤ 0)
theorem comp_ok {l : List MV} (hs : (l.map (·.1)).Pairwise (fun a b => ¬ bsC b a < 0)) : ∀ m, m ≤ l.length → CompOk l m
  | 0, _ => ⟨by simp [compT], by simp [compT], fun e h => absurd rfl h⟩
  | m + 1, hm => by
    have ih := comp_ok hs m (by omega)
    have he := List.getElem?_eq_getElem (l := l) (i := m) (by omega)
    obtain ⟨e, hee⟩ : ∃ e, e = l[m]'(by omega) := ⟨_, rfl⟩
    rw [← hee] at he
    by_cases h0 : m = 0
    · subst h0
      have hc1 : compT l (0 + 1) = [e] := compT_one he
      have ht : l.take (0 + 1) = [e] := by rw [take_snoc' he]; simp
      refine ⟨by rw [hc1]; simp, by rw [hc1, ht]; simp, fun e' _ h1 k hk => ?_⟩
      rw [hc1] at hk
      simp only [Nat.zero_add, Nat.sub_self] at h1
      rw [he] at h1
      injection h1 with h1
      subst h1
      simp at hk
      subst hk
      rw [bsC_pc.refl]; decide
    · have hp := List.getElem?_eq_getElem (l := l) (i := m - 1) (by omega)
      obtain ⟨p, hpp⟩ : ∃ p, p = l[m - 1]'(by omega) := ⟨_, rfl⟩
      rw [← hpp] at hp
      have hle : ¬ bsC e.1 p.1 < 0 := by
        have := List.pairwise_iff_getElem.1 hs (m - 1) m (by simp; omega) (by simp; omega) (by omega)
        simpa [← hee, ← hpp] using this
      by_cases heq : p.1 = e.1
      · have hc := compT_old he hp h0 heq
        refine ⟨by rw [hc]; exact ih.asc, fun k => ?_, fun e' _ h1 k hk => ?_⟩
        · rw [hc, ih.mem, take_snoc' he, List.map_append, List.mem_append]
          constructor
          · exact .inl
          · rintro (h | h)
            · exact h
            · simp at h
              subst h
              refine List.mem_map.2 ⟨p, ?_, heq⟩
              have : (l.take m)[m - 1]? = some p := by rw [List.getElem?_take_of_lt (by omega)]; exact hp
              exact List.mem_of_getElem? this
        · rw [hc] at hk
          simp only [Nat.add_sub_cancel] at h1
          rw [he] at h1
          injection h1 with h1
          subst h1
          rw [← heq]
          exact ih.last p h0 hp k hk
      · have hc := compT_new he hp h0 heq
        have hlt : bsC p.1 e.1 < 0 := by
          have h1 := bsC_pc.anti p.1 e.1
          have h2 : bsC p.1 e.1 ≠ 0 := fun h => heq (bsC_eq.1 h)
          omega
        have hall : ∀ k ∈ (compT l m).map (·.1), bsC k e.1 < 0 := fun k hk => by
          have h3 := ih.last p h0 hp k hk
          rcases Int.lt_or_eq_of_le h3 with h3 | h3
          · exact bsC_pc.lt k p.1 e.1 h3 hlt
          · exact bsC_pc.eq_lt h3 hlt
        refine ⟨?_, fun k => ?_, fun e' _ h1 k hk => ?_⟩
        · rw [hc, List.map_append, List.pairwise_append]
          exact ⟨ih.asc, by simp, fun a ha b hb => by simp at hb; subst hb; exact hall a ha⟩
        · rw [hc, take_snoc' he, List.map_append, List.map_append, List.mem_append, List.mem_append, ih.mem]
        · simp only [Nat.add_sub_cancel] at h1
          rw [he] at h1
          injection h1 with h1
          subst h1
          rw [hc, List.map_append, List.mem_append] at hk
          rcases hk with hk | hk
          · exact Int.le_of_lt (hall k hk)
          · simp at hk; subst hk; rw [bsC_pc.refl]; decide
theorem zeroCells_mat (n : Nat) : (Builtin.zeroCells (Value.agg #[.slice none 0 0]).cells n).toList.length = n ∧ ∀ u ∈ (Builtin.zeroCells (Value.agg #[.slice none 0 0]).cells n).toList, u.oneCell' = true := by
  have hc : (Value.agg #[.slice none 0 0]).cells = #[.slice none 0 0] := by rfl
  rw [hc]
  unfold Builtin.zeroCells
  constructor
  · simp
  · intro u hu
    simp only [Array.toList_map, List.mem_map, Array.toList_range] at hu
    obtain ⟨i, _, rfl⟩ := hu
    have hr : i % 1 = 0 := Nat.mod_one i
    simp [Value.oneCell', hr]
theorem run_clear_mats (w : World) (ty : TypeId) (g o n c : Nat) (hn : 0 < n) {cur : Array Value} (hg : w.heap[g]? = some (.cells cur 24 (0, 0))) (hl : o + n ≤ cur.size) :
    ∃ Z : List Value, Z.length = n ∧ (Builtin.clear_ #[26] ty #[.slice (some ⟨g, o, none⟩) n c]).run Tryz.prog w = .ok (.tuple #[]) (w.setCells g o Z) := by
  have hv := Tryz.zeroValue24
  obtain ⟨hz, h1⟩ := zeroCells_mat n
  have hst := run_storeCells_cells (P := Tryz.prog) g o (Builtin.zeroCells (Value.agg #[.slice none 0 0]).cells n).toList 0 w (fun j hj => by
      rw [hz] at hj
      have : j + o < cur.size := by omega
      simp [World.cell?, hg]
      omega) (fun j hj => by simp [World.frozen?, hg]) h1
  simp only [Nat.add_zero] at hst
  refine ⟨_, hz, ?_⟩
  obtain ⟨m, rfl⟩ : ∃ m, n = m + 1 := ⟨n - 1, by omega⟩
  simp only [Builtin.clear_, List.getElem?_toArray, List.getElem?_cons_zero, Sem.run_bind, Sem.run_pure, Result.andThen_ok, run_underlying Tryz.underlying26, hv, hst]
set_option maxHeartbeats 1000000 in
theorem eqM_any (l m : List Bnd) (v1 v2 : Value) (w : World) (hl : IsBnds w v1 l) (hm : IsBnds w v2 m) :
    Calls Tryz.prog 59 #[.agg #[v1], .agg #[v2]] w fun e w' => e = .returned (.bool (bsC l m == 0)) ∧ Below w.heap.size w w' := by
  have HL := Lib.hid hl
  have HM := Lib.hid hm
  obtain ⟨A, c, rfl, -⟩ := hl
  obtain ⟨B, d, rfl, -⟩ := hm
  have hc := fun W h1 h2 => mcompare_any l m (.slice A l.length c) (.slice B m.length d) W h1 h2
  unfold matV at hc
  have HC := Lib.hid hc
  clear hc
  go_enter Tryz.func59, Tryz.ntmps59
  go_wp2_with fail
  refine (HC.out _ (HL.out.stays bndAt_stays (by repeat (first | exact Below.refl _ _ | assumption | refine Below.drew ?_ | refine bel_al ?_ _ | refine bel_set ?_ (by omega) _ | refine bel_tr ?_ (by assumption)))) (HM.out.stays bndAt_stays (by repeat (first | exact Below.refl _ _ | assumption | refine Below.drew ?_ | refine bel_al ?_ _ | refine bel_set ?_ (by omega) _ | refine bel_tr ?_ (by assumption))))).mono ?_
  rintro e w3 ⟨rfl, hg3⟩
  have hb3 := bel_tr (bel_al (bel_one _ _) _) hg3.below
  go_wp2_with fail
  go_ret
  exact ⟨rfl, hb3⟩
def CompRet (C : List MV) (g cap : Nat) (w : World) (e : Ending) (W : World) : Prop := ∃ spare', e = .returned (.slice (some ⟨g, 0, none⟩) C.length cap) ∧ W.heap[g]? = some (.cells (C.map (·.2) ++ spare').toArray 24 (0, 0)) ∧ (C.map (·.2) ++ spare').length = cap ∧ w.grownBy W (some g)
set_option maxRecDepth 100000 in
set_option maxHeartbeats 8000000 in
theorem compact_any (ms : List MV) (g cap : Nat) (spare : List Value) (w : World) (hg : w.heap[g]? = some (.cells (ms.map (·.2) ++ spare).toArray 24 (0, 0))) (hc : ms.length ≤ cap) (hm : cap ≤ maxLen) (hcs : (ms.map (·.2) ++ spare).length = cap) (he : ∀ e ∈ ms, MOk w g e) :
    Calls Tryz.prog 58 #[.slice (some ⟨g, 0, none⟩) ms.length cap, .func (.func 59) #[] #[]] w (CompRet (compT ms ms.length) g cap w) := by
  have hn := len_i64 hc hm
  have hcap : (cap : Int) ≤ 9223372036854775807 := by unfold maxLen at hm; omega
  have HG := Lib.hid hg
  have HE := Lib.hid he
  have HCS := Lib.hid hcs
  have hgl := blk_lt hg
  clear hg he hcs
  by_cases h2 : ms.length < 2
  · have hall : compT ms ms.length = ms := by
      rw [compT_all ms.length (Nat.le_refl _) (fun j p e h0 h1 _ _ => absurd h1 (by omega)), List.take_length]
    rw [hall]
    have h2' : (ms.length : Int) < 2 := by omega
    clear hall
    go_enter Tryz.func58, Tryz.ntmps58
    go_wp2_with fail
    go_ret
    exact ⟨spare, rfl, HG.out, HCS.out, World.grownBy.refl w _⟩
  have h2' : ¬ (ms.length : Int) < 2 := by omega
  obtain ⟨C, hC⟩ : ∃ C, compT ms ms.length = C := ⟨_, rfl⟩
  have HC := Lib.hid hC
  rw [hC]
  clear hC
  go_enter Tryz.func58, Tryz.ntmps58
  go_wp2_with fail
  go_loopw [5] (fun i wr => ∃ k : Nat, 1 ≤ k ∧ k ≤ ms.length ∧ i = .int .i64 k ∧ Hid ((∀ j p e, j ≠ 0 → j < k → ms[j - 1]? = some p → ms[j]? = some e → p.1 ≠ e.1) ∧ Below w.heap.size w wr)) (fun i _ => ms.length - (intOf i).toNat)
  case atStart => exact ⟨1, Nat.le_refl _, by omega, rfl, Lib.hid ⟨fun j p e h0 h1 _ _ => absurd h1 (by omega), Below.refl _ _⟩⟩
  case round =>
    obtain ⟨K, hK1, hK, rfl, hI⟩ := hrel
    have hbr := hI.out.2
    have hh : wr.heap[g]? = some (.cells (ms.map (·.2) ++ spare).toArray 24 (0, 0)) := (hbr.block g hgl).trans HG.out
    by_cases hlt : K < ms.length
    · have hk' : (K : Int) < (ms.length : Int) := by omega
      have hk1 : (0 : Int) ≤ (K : Int) - 1 := by omega
      have hk2 : (K : Int) - 1 < (ms.length : Int) := by omega
      have hx := List.getElem?_eq_getElem (l := ms) (i := K) hlt
      have hp := List.getElem?_eq_getElem (l := ms) (i := K - 1) (by omega)
      have ex := HE.out _ (List.getElem_mem hlt)
      have ep := HE.out _ (List.getElem_mem (show K - 1 < ms.length by omega))
      obtain ⟨x, hxe⟩ : ∃ x, x = ms[K] := ⟨_, rfl⟩
      obtain ⟨p, hpe⟩ : ∃ p, p = ms[K - 1]'(by omega) := ⟨_, rfl⟩
      rw [← hxe] at hx ex
      rw [← hpe] at hp ep
      have c0 : wr.cell? ⟨g, K, none⟩ = some x.2 := by rw [blk_cell hh]; exact vals_at hx spare
      have c1 : wr.cell? ⟨g, K - 1, none⟩ = some p.2 := by rw [blk_cell hh]; exact vals_at hp spare
      have HX := Lib.hid (ex.1.stays bndAt_stays hbr)
      have HP := Lib.hid (ep.1.stays bndAt_stays hbr)
      obtain ⟨Ax, cx, hvx⟩ := sl_form ex.1
      obtain ⟨Ap, cp, hvp⟩ := sl_form ep.1
      rw [hvx] at c0 HX
      rw [hvp] at c1 HP
      have HGX := Lib.hid hx
      have HGP := Lib.hid hp
      obtain ⟨r, hr⟩ : ∃ r, (bsC x.1 p.1 == 0) = r := ⟨_, rfl⟩
      have HEQ := Lib.hid (fun W (hW : Below wr.heap.size wr W) => eqM_any x.1 p.1 _ _ W (HX.out.stays bndAt_stays hW) (HP.out.stays bndAt_stays hW))
      rw [hr] at HEQ
      have HR := Lib.hid hr
      have HH := Lib.hid hh
      clear hx hp ex ep hxe hpe hvx hvp hr hh
      go_wp2_with fail
      refine wp_region_F (fun W => W.cell? ⟨g, K, none⟩ = some (.slice Ax x.1.length cx) ∧ W.cell? ⟨g, K - 1, none⟩ = some (.slice Ap p.1.length cp)) (by repeat (first | exact grows_cell _ _ _ | exact grows_true | refine grows_and ?_ ?_)) (by kernel_rfl) (by kernel_rfl) ?hF ?_; (case hF => (first | exact ⟨‹_›, ‹_›⟩ | (go_simp; done) | (simp [*]; done) | (repeat' (first | (refine And.intro ?_ ?_) | (go_simp; done) | exact cell_stays (bel_al (Below.refl _ _) _) (by assumption) | assumption)))); intro hne hxx; have hG : Hid (Grows (fun W => W.cell? ⟨g, K, none⟩ = some (.slice Ax x.1.length cx) ∧ W.cell? ⟨g, K - 1, none⟩ = some (.slice Ap p.1.length cp))) := (by repeat (first | exact grows_cell _ _ _ | exact grows_true | refine grows_and ?_ ?_)); (repeat (go_big_quiet_step ((go_at_call 59; exact cls_callB hG (fun W hW => HEQ.out W hW))))); clear hG hxx hne; refine wpQuiet_nil ?_; rintro wq ⟨⟨w', hb', hF'⟩, rfl⟩
      clear hF' c0 c1
      cases r with
      | false =>
        go_wp2_with fail
        go_roundw
        case rel =>
          refine ⟨K + 1, by omega, by omega, by go_num, Lib.hid ⟨?_, bel_tr hbr hb'⟩⟩
          intro j q e h0 h1 h3 h4
          rcases Nat.lt_or_eq_of_le (Nat.le_of_lt_succ h1) with h | h
          · exact hI.out.1 j q e h0 h h3 h4
          · subst h
            rw [HGX.out] at h4
            rw [HGP.out] at h3
            injection h4 with h4
            injection h3 with h3
            rw [← h3, ← h4]
            intro heq
            have := HR.out
            rw [heq, bsC_pc.refl] at this
            exact absurd this (by decide)
        case measure => simp [intOf]; omega
      | true =>
        go_wp2_with fail
        have hkeq : p.1 = x.1 := (bsC_eq.1 (by have := HR.out; simpa using this)).symm
        have hcK : compT ms K = ms.take K := compT_all K (by omega) (fun j q e h0 h1 h3 h4 => hI.out.1 j q e h0 h1 h3 h4)
        have hcK1 : compT ms (K + 1) = ms.take K := by rw [compT_old HGX.out HGP.out (by omega) hkeq, hcK]
        have hH2 : wq.heap[g]? = some (.cells (ms.map (·.2) ++ spare).toArray 24 (0, 0)) := (hb'.block g (blk_lt HH.out)).trans HH.out
        have hL1 : (compT ms (K + 1)).length = K := by rw [hcK1, List.length_take]; omega
        have HST : Hid (wq.heap[g]? = some (.cells (ms.map (·.2) ++ spare).toArray 24 (0, 0)) ∧ (ms.map (·.2) ++ spare).length = cap ∧ (compT ms (K + 1)).length < K + 1 ∧ (ms.map (·.2) ++ spare).take (compT ms (K + 1)).length = (compT ms (K + 1)).map (·.2) ∧ (ms.map (·.2) ++ spare).drop (K + 1 - 1) = (ms.map (·.2) ++ spare).drop (K + 1 - 1) ∧ w.grownBy wq (some g)) :=
          Lib.hid ⟨hH2, HCS.out, by omega, by rw [hL1, hcK1, List.take_append_of_le_length (by rw [List.length_map]; omega), List.map_take], rfl, below_grown (bel_tr hbr hb') _⟩
        have HL1 := Lib.hid hL1
        clear hkeq hcK hcK1 hH2 hL1 hI hbr hb'
        obtain ⟨wa, rfl⟩ : ∃ wa : World, wa = wq := ⟨_, rfl⟩
        go_loopw [5, 7] (fun kv jv wr => ∃ (j : Nat) (cur : List Value), 1 ≤ j ∧ K + j ≤ ms.length ∧ kv = .int .i64 ((compT ms (K + j)).length : Nat) ∧ jv = .int .i64 j ∧ Hid (wr.heap[g]? = some (.cells cur.toArray 24 (0, 0)) ∧ cur.length = cap ∧ (compT ms (K + j)).length < K + j ∧ cur.take (compT ms (K + j)).length = (compT ms (K + j)).map (·.2) ∧ cur.drop (K + j - 1) = (ms.map (·.2) ++ spare).drop (K + j - 1) ∧ w.grownBy wr (some g))) (fun _ j _ => ms.length - (intOf j).toNat)
        case atStart => exact ⟨1, _, Nat.le_refl _, by omega, by rw [HL1.out], rfl, HST⟩
        case round =>
          obtain ⟨j, cur, hj1, hjn, rfl, rfl, hJ⟩ := hrel
          obtain ⟨L, hL⟩ : ∃ L, (compT ms (K + j)).length = L := ⟨_, rfl⟩
          have hJ1 := hJ.out
          rw [hL] at hJ1 ⊢
          have HJ := Lib.hid hJ1
          have HL := Lib.hid hL
          have hLK : L < K + j := hJ1.2.2.1
          clear hJ hL
          by_cases hlt2 : K + j < ms.length
          · have hj' : (j : Int) < ((ms.length - K : Nat) : Int) := by omega
            have hx2 := List.getElem?_eq_getElem (l := ms) (i := K + j) hlt2
            have hp2 := List.getElem?_eq_getElem (l := ms) (i := K + j - 1) (by omega)
            have ex := HE.out _ (List.getElem_mem hlt2)
            have ep := HE.out _ (List.getElem_mem (show K + j - 1 < ms.length by omega))
            obtain ⟨y, hye⟩ : ∃ x, x = ms[K + j] := ⟨_, rfl⟩
            obtain ⟨z, hze⟩ : ∃ p, p = ms[K + j - 1]'(by omega) := ⟨_, rfl⟩
            rw [← hye] at hx2 ex
            rw [← hze] at hp2 ep
            have hrd : ∀ r, cur[K + j - 1 + r]? = (ms.map (·.2) ++ spare)[K + j - 1 + r]? := fun r => by
              have := congrArg (fun l : List Value => l[r]?) hJ1.2.2.2.2.1
              simpa [List.getElem?_drop] using this
            have c0 : wr.cell? ⟨g, K + j, none⟩ = some y.2 := by
              rw [blk_cell hJ1.1, show K + j = K + j - 1 + 1 by omega, hrd 1, show K + j - 1 + 1 = K + j by omega]; exact vals_at hx2 spare
            have c1 : wr.cell? ⟨g, K + (j - 1), none⟩ = some z.2 := by
              rw [blk_cell hJ1.1, show K + (j - 1) = K + j - 1 + 0 by omega, hrd 0]; exact vals_at hp2 spare
            have hkp : ∀ e : MV, MOk w g e → IsBnds wr e.2 e.1 := fun e he => sl_kept' he.1 fun b hb hv => hJ1.2.2.2.2.2.block b hb (fun e1 => he.2 (by rw [hv, e1]))
            have HX2 := Lib.hid (hkp y ex)
            have HP2 := Lib.hid (hkp z ep)
            obtain ⟨Ay, cy, hvy⟩ := sl_form ex.1
            obtain ⟨Az, cz, hvz⟩ := sl_form ep.1
            rw [hvy] at c0 HX2
            rw [hvz] at c1 HP2
            have HVY := Lib.hid hvy
            have HGX2 := Lib.hid hx2
            have HGP2 := Lib.hid hp2
            have hgr := blk_lt hJ1.1
            have hLc : L < cur.length := by rw [hJ1.2.1]; omega
            obtain ⟨u0, hu0⟩ : ∃ u, wr.cell? ⟨g, L, none⟩ = some u := ⟨cur[L], by rw [blk_cell hJ1.1, List.getElem?_eq_getElem hLc]⟩
            have fz := blk_frozen hJ1.1 L
            have hLi : (L : Int) < (ms.length : Int) := by omega
            obtain ⟨r2, hr2⟩ : ∃ r, (bsC y.1 z.1 == 0) = r := ⟨_, rfl⟩
            have HEQ2 := Lib.hid (fun W (hW : Below wr.heap.size wr W) => eqM_any y.1 z.1 _ _ W (HX2.out.stays bndAt_stays hW) (HP2.out.stays bndAt_stays hW))
            rw [hr2] at HEQ2
            have HR2 := Lib.hid hr2
            have HLC := Lib.hid hLc
            have hj10 : (0 : Int) ≤ (j : Int) - 1 := by omega
            have hj11 : (j : Int) - 1 < ((ms.length - K : Nat) : Int) := by omega
            clear hx2 hp2 ex ep hye hze hrd hkp hvy hvz hr2 hJ1 hLc
            go_wp2_with fail
            refine wp_region_F (fun W => W.cell? ⟨g, K + j, none⟩ = some (.slice Ay y.1.length cy) ∧ W.cell? ⟨g, K + (j - 1), none⟩ = some (.slice Az z.1.length cz)) (by repeat (first | exact grows_cell _ _ _ | exact grows_true | refine grows_and ?_ ?_)) (by kernel_rfl) (by kernel_rfl) ?hF ?_; (case hF => (first | exact ⟨‹_›, ‹_›⟩ | (go_simp; done) | (simp [*]; done) | (repeat' (first | (refine And.intro ?_ ?_) | (go_simp; done) | exact cell_stays (bel_al (Below.refl _ _) _) (by assumption) | assumption)))); intro hne hxx; have hG : Hid (Grows (fun W => W.cell? ⟨g, K + j, none⟩ = some (.slice Ay y.1.length cy) ∧ W.cell? ⟨g, K + (j - 1), none⟩ = some (.slice Az z.1.length cz))) := (by repeat (first | exact grows_cell _ _ _ | exact grows_true | refine grows_and ?_ ?_)); (repeat (go_big_quiet_step ((go_at_call 59; exact cls_callB hG (fun W hW => HEQ2.out W hW))))); clear hG hxx hne; refine wpQuiet_nil ?_; rintro wq ⟨⟨w', hb', hF'⟩, rfl⟩
            obtain ⟨c0', c1'⟩ := hF'
            have hw2 : wq.heap[g]? = some (.cells cur.toArray 24 (0, 0)) := (hb'.block g hgr).trans HJ.out.1
            have u0' := cell_stays hb' hu0
            have fz' : wq.frozen? ⟨g, L, none⟩ = false := blk_frozen hw2 L
            have HW2 := Lib.hid hw2
            have HGR := Lib.hid (grown_tr HJ.out.2.2.2.2.2 (below_grown hb' _))
            clear c0 c1 hu0 fz hw2 hb'
            cases r2 with
            | true =>
              go_wp2_with fail
              go_roundw
              case rel =>
                have heq : z.1 = y.1 := (bsC_eq.1 (by have := HR2.out; simpa using this)).symm
                have e1 : compT ms (K + (j + 1)) = compT ms (K + j) := by rw [← Nat.add_assoc]; exact compT_old HGX2.out HGP2.out (by omega) heq
                refine ⟨j + 1, cur, by omega, by omega, by rw [e1, HL.out], by go_num, Lib.hid ⟨HW2.out, HJ.out.2.1, by rw [e1, HL.out]; omega, by rw [e1, HL.out]; exact HJ.out.2.2.2.1, ?_, HGR.out⟩⟩
                have := congrArg (List.drop 1) HJ.out.2.2.2.2.1
                rw [List.drop_drop, List.drop_drop] at this
                rwa [show K + (j + 1) - 1 = K + j - 1 + 1 by omega]
              case measure => simp [intOf]; omega
            | false =>
              go_wp2_with fail
              go_roundw
              case rel =>
                have hne : z.1 ≠ y.1 := fun h => by
                  have := HR2.out
                  rw [h, bsC_pc.refl] at this
                  exact absurd this (by decide)
                have e1 : compT ms (K + (j + 1)) = compT ms (K + j) ++ [y] := by rw [← Nat.add_assoc]; exact compT_new HGX2.out HGP2.out (by omega) hne
                have hset := blk_set HW2.out L (.slice Ay y.1.length cy)
                refine ⟨j + 1, _, by omega, by omega, by rw [e1, List.length_append, HL.out]; go_num, by go_num, Lib.hid ⟨hset, by rw [List.length_set]; exact HJ.out.2.1, by rw [e1, List.length_append, HL.out]; simp; omega, ?_, ?_, grown_tr HGR.out (set_grown _ _ _ _)⟩⟩
                · rw [e1, List.length_append, HL.out, List.length_singleton, List.map_append, ← HJ.out.2.2.2.1, List.take_succ_eq_append_getElem (by rw [List.length_set]; exact HLC.out), List.take_set_of_le (Nat.le_refl _), List.getElem_set_self]
                  simp [HVY.out]
                · rw [List.drop_set_of_lt (by omega)]
                  have := congrArg (List.drop 1) HJ.out.2.2.2.2.1
                  rw [List.drop_drop, List.drop_drop] at this
                  rwa [show K + (j + 1) - 1 = K + j - 1 + 1 by omega]
              case measure => simp [intOf]; omega
          · have hj' : ¬ (j : Int) < ((ms.length - K : Nat) : Int) := by omega
            have hjN : K + j = ms.length := by omega
            obtain ⟨Z, hZl, hcl⟩ := run_clear_mats wr 0 g L (ms.length - L) (cap - L) (by omega) HJ.out.1 (by simp only [List.size_toArray]; rw [HJ.out.2.1]; omega)
            have hke : (L : Int) ≤ (ms.length : Int) := by omega
            have hkc : (L : Int) ≤ (cap : Int) := by omega
            have HJN := Lib.hid hjN
            clear hjN
            go_wp2_with fail
            go_ret
            obtain ⟨cur', h1, h2, h3⟩ := setCells_row (_w := wr) Z L cur wr HJ.out.1
            have h4 := HJ.out.2.2.2.1
            have h6 := HL.out
            rw [HJN.out, HC.out] at h4 h6
            have h5 : cur' = C.map (·.2) ++ cur'.drop L := by rw [← h4, ← h3, List.take_append_drop]
            refine ⟨cur'.drop L, by rw [h6]; rfl, ?_, ?_, grown_tr HJ.out.2.2.2.2.2 (setCells_grown g Z L wr)⟩
            · rw [← h5]; exact h1
            · rw [← h5, h2, HJ.out.2.1]
    · have hk' : ¬ (K : Int) < (ms.length : Int) := by omega
      have hke : K = ms.length := by omega
      have HALL : Hid (C = ms) := Lib.hid (by
        rw [← HC.out, compT_all ms.length (Nat.le_refl _) (fun j p e h0 h1 h3 h4 => hI.out.1 j p e h0 (by omega) h3 h4), List.take_length])
      have HH := Lib.hid hh
      clear hh hke
      go_wp2_with fail
      go_ret
      rw [HALL.out]
      exact ⟨spare, rfl, HH.out, HCS.out, below_grown hbr _⟩
end
section
open Go.RowKit Go.Shelf
open Go.Sort (SWO PermIn SortedIn HoldsK grow)
theorem asc_uniq : ∀ {S T : List (List Bnd)}, S.Pairwise (fun a b => bsC a b < 0) → T.Pairwise (fun a b => bsC a b < 0) → (∀ k, k ∈ S ↔ k ∈ T) → S = T
  | [], [], _, _, _ => rfl
  | [], b :: T, _, _, h => absurd ((h b).2 (List.mem_cons_self ..)) (by simp)
  | a :: S, [], _, _, h => absurd ((h a).1 (List.mem_cons_self ..)) (by simp)
  | a :: S, b :: T, hS, hT, h => by
    obtain ⟨h1, h2⟩ := List.pairwise_cons.1 hS
    obtain ⟨k1, k2⟩ := List.pairwise_cons.1 hT
    have hno : ∀ {x : List Bnd}, ¬ bsC x x < 0 := fun {x} h => by rw [bsC_pc.refl] at h; omega
    have hab : a = b := by
      rcases List.mem_cons.1 ((h a).1 (List.mem_cons_self ..)) with h3 | h3
      · exact h3
      · rcases List.mem_cons.1 ((h b).2 (List.mem_cons_self ..)) with h4 | h4
        · exact h4.symm
        · exact absurd (bsC_pc.lt a b a (h1 b h4) (k1 a h3)) hno
    subst hab
    rw [asc_uniq h2 k2 fun k => ⟨fun hk => ?_, fun hk => ?_⟩]
    · rcases List.mem_cons.1 ((h k).1 (List.mem_cons_of_mem _ hk)) with rfl | h3
      · exact absurd (h1 k hk) hno
      · exact h3
    · rcases List.mem_cons.1 ((h k).2 (List.mem_cons_of_mem _ hk)) with rfl | h3
      · exact absurd (k1 k hk) hno
      · exact h3
/-- insertion in ascending order, each once -/
def putM (m : List Bnd) : List (List Bnd) → List (List Bnd)
  | [] => [m]
  | x :: l => if bsC x m < 0 then x :: putM m l else if bsC x m = 0 then x :: l else m :: x :: l
def sortM (l : List (List Bnd)) : List (List Bnd) := l.foldl (fun S m => putM m S) []
theorem putM_mem (m : List Bnd) : ∀ l k, k ∈ putM m l ↔ k = m ∨ k ∈ l
  | [], k => by simp [putM]
  | x :: l, k => by
    have ih := putM_mem m l k
    simp only [putM]
    split
    · simp only [List.mem_cons, ih]
      constructor
      · rintro (h | h | h)
        · exact .inr (.inl h)
        · exact .inl h
        · exact .inr (.inr h)
      · rintro (h | h | h)
        · exact .inr (.inl h)
        · exact .inl h
        · exact .inr (.inr h)
    · split
      · next h => have := bsC_eq.1 h; subst this; simp
      · simp
theorem putM_asc {m : List Bnd} : ∀ {l}, l.Pairwise (fun a b => bsC a b < 0) → (putM m l).Pairwise (fun a b => bsC a b < 0)
  | [], _ => by simp [putM]
  | x :: l, h => by
    obtain ⟨h1, h2⟩ := List.pairwise_cons.1 h
    simp only [putM]
    split
    · next hx =>
      refine List.pairwise_cons.2 ⟨fun k hk => ?_, putM_asc h2⟩
      rcases (putM_mem m l k).1 hk with rfl | hk
      · exact hx
      · exact h1 k hk
    · split
      · exact h
      · next hx hx2 =>
        have hm : bsC m x < 0 := by have := bsC_pc.anti x m; omega
        refine List.pairwise_cons.2 ⟨fun k hk => ?_, h⟩
        rcases List.mem_cons.1 hk with rfl | hk
        · exact hm
        · exact bsC_pc.lt m x k hm (h1 k hk)
theorem sortM_go (l : List (List Bnd)) : ∀ S : List (List Bnd), S.Pairwise (fun a b => bsC a b < 0) → (l.foldl (fun S m => putM m S) S).Pairwise (fun a b => bsC a b < 0) ∧ ∀ k, k ∈ l.foldl (fun S m => putM m S) S ↔ k ∈ S ∨ k ∈ l := by
  induction l with
  | nil => intro S h; exact ⟨h, fun k => by simp⟩
  | cons x l ih =>
    intro S h
    obtain ⟨h1, h2⟩ := ih _ (putM_asc (m := x) h)
    refine ⟨h1, fun k => ?_⟩
    rw [List.foldl_cons, h2, putM_mem, List.mem_cons]
    constructor
    · rintro ((h | h) | h)
      · exact .inr (.inl h)
      · exact .inl h
      · exact .inr (.inr h)
    · rintro (h | h | h)
      · exact .inl (.inr h)
      · exact .inl (.inl h)
      · exact .inr h
theorem sortM_ok (l : List (List Bnd)) : (sortM l).Pairwise (fun a b => bsC a b < 0) ∧ ∀ k, k ∈ sortM l ↔ k ∈ l := by
  obtain ⟨h1, h2⟩ := sortM_go l [] List.Pairwise.nil
  exact ⟨h1, fun k => by rw [show sortM l = l.foldl (fun S m => putM m S) [] from rfl, h2]; simp⟩
theorem sortM_is {S l : List (List Bnd)} (h1 : S.Pairwise (fun a b => bsC a b < 0)) (h2 : ∀ k, k ∈ S ↔ k ∈ l) : S = sortM l :=
  asc_uniq h1 (sortM_ok l).1 fun k => by rw [h2, (sortM_ok l).2]
def matsErr (l : List (List Bnd)) : Int := scanE (fun _ m => matErr m) none l
def sortR (l : List (List Bnd)) : List (List Bnd) × Int := if matsErr l ≠ 0 then ([], matsErr l) else if 4096 < (sortM l).length then ([], 5) else (sortM l, 0)
theorem comp_is {es l : List MV} (hp : es.Perm l) (hs : (es.map (·.1)).Pairwise (fun a b => ¬ bsC b a < 0)) : (compT es es.length).map (·.1) = sortM (l.map (·.1)) := by
  have h := comp_ok hs es.length (Nat.le_refl _)
  refine sortM_is h.asc fun k => ?_
  rw [h.mem, List.take_length]
  exact (hp.map (·.1)).mem_iff
end
end Go.Proofs.YtclpglgigpjfoaaGreatDoor
