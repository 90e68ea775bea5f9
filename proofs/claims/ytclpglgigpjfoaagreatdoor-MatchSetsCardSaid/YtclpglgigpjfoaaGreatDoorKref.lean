/- Collected by program (collect.py) out of my templates Lled Lidx Lled2 Lown Ldel Lnew Lsort Lkey Lkey2 Ltot1 Ltot2 Lled3 Lfun Lapp Lstand Ldiff Lrev Lcomp Lsortm Lstep Ldiff2 Lpl2 Ldiff3 Lsingle Lsame Lsame2 Lawake Lmsort Lof Lradd Lfew Lsmall Llaws Lrsum Lrput Lrsort: what the contracts rsort_any lean on. -/
import Derived.Test.YtclpglgigpjfoaaGreatDoorKsort
namespace Go.Proofs.YtclpglgigpjfoaaGreatDoor
section
open Go.RowKit
theorem MW.is {B : Nat} {wr : World} {av : Value} {ms : List (List Bnd × Value)} (h : MW B wr av ms) : IsMats wr av (ms.map (·.1)) := by
  have h1 : ∀ u ∈ ms.map (·.2), u.oneCell' = true := fun u hu => by
    obtain ⟨e, he, rfl⟩ := List.mem_map.1 hu
    exact sl_oneCell (h.bnds e he).1
  obtain ⟨A, c, rfl, h2, h3, h4⟩ := ownsRow_src h.row h1
  refine ⟨A, c, by rw [List.length_map], by rw [List.length_map]; exact h2, h3, fun k x hk => ?_⟩
  rw [List.getElem?_map] at hk
  obtain ⟨e, he, rfl⟩ := Option.map_eq_some_iff.1 hk
  have hkl := (List.getElem?_eq_some_iff.1 he).1
  obtain ⟨b, o, hA, hcs⟩ := h4.2.2 (by omega)
  exact ⟨b, o, hA, e.2, (h.bnds e (List.mem_of_getElem? he)).1, by rw [Nat.mul_one]; exact hcs k _ (by rw [List.getElem?_map, he]; rfl)⟩
end
section
open Go.RowKit
theorem drew_heap (W : World) : W.drew.heap = W.heap := rfl
end
section
open Go.RowKit Go.Shelf
theorem matMean {w : World} {v : Value} {bs : List Bnd} (hv : IsBnds w v bs) : Means MatAt 1 w [v] [bs] := by
  refine ⟨rfl, by simp [sl_oneCell hv], fun W b o hb hc k x hk => ?_⟩
  cases k with
  | zero => simp at hk; subst hk; exact ⟨v, hv.stays bndAt_stays hb, by simpa using hc 0 _ rfl⟩
  | succ k => simp at hk
theorem mats_at {w : World} {b : Nat} : ∀ (cs : List (List Bnd)) (o : Nat), SlAt MatAt 1 w b o cs → ∃ ms : List MV, ms.map (·.1) = cs ∧ (∀ e ∈ ms, IsBnds w e.2 e.1) ∧ Cells w b o (ms.map (·.2))
  | [], _, _ => ⟨[], rfl, by simp, fun j u h => by simp at h⟩
  | x :: l, o, h => by
    obtain ⟨v, hv, h0⟩ := h 0 x rfl
    obtain ⟨ms, e1, e2, e3⟩ := mats_at l (o + 1) h.tail
    refine ⟨(x, v) :: ms, by rw [List.map_cons, e1], ?_, ?_⟩
    · intro e he
      rcases List.mem_cons.1 he with rfl | he
      · exact hv
      · exact e2 e he
    · refine Cells.app (cs := [v]) (ds := ms.map (·.2)) (fun j u hj => ?_) e3
      match j, hj with
      | 0, hj => simp at hj; subst hj; simpa using h0
      | j + 1, hj => simp at hj
theorem mats_cells {w : World} {A : Option Addr} {n c : Nat} {cs : List (List Bnd)} (h : IsMats w (.slice A n c) cs) : ∃ ms : List MV, ms.map (·.1) = cs ∧ (∀ e ∈ ms, IsBnds w e.2 e.1) ∧ (0 < n → ∃ b o, A = some ⟨b, o, none⟩ ∧ Cells w b o (ms.map (·.2))) := by
  obtain ⟨A', c', hv, h1, h2, h3⟩ := h
  injection hv with e1 e2 e3
  subst e1 e2 e3
  cases cs with
  | nil => exact ⟨[], rfl, by simp, fun h => by simp at h⟩
  | cons x l =>
    obtain ⟨b, o, hA, _⟩ := h3 0 x rfl
    subst hA
    have hat : SlAt MatAt 1 w b o (x :: l) := fun k y hk => by
      obtain ⟨b', o', hA, hR⟩ := h3 k y hk
      injection hA with hA
      injection hA with e1 e2
      subst e1 e2
      exact hR
    obtain ⟨ms, k1, k2, k3⟩ := mats_at _ o hat
    exact ⟨ms, k1, k2, fun _ => ⟨b, o, rfl, k3⟩⟩
theorem mats_means {w : World} : ∀ {ms : List MV}, (∀ e ∈ ms, IsBnds w e.2 e.1) → Means MatAt 1 w (ms.map (·.2)) (ms.map (·.1))
  | [], _ => Means.nil
  | e :: _, h => (matMean (h e (List.mem_cons_self ..))).app (mats_means fun x hx => h x (List.mem_cons_of_mem _ hx))
theorem putM_split {m : List Bnd} : ∀ (l : List (List Bnd)) (i : Nat), i ≤ l.length → (∀ j x, l[j]? = some x → j < i → bsC x m < 0) → (∀ x, l[i]? = some x → ¬ bsC x m < 0) →
    (∀ x, l[i]? = some x → bsC x m = 0 → putM m l = l) ∧ ((∀ x, l[i]? = some x → bsC x m ≠ 0) → putM m l = l.take i ++ m :: l.drop i)
  | [], i, hi, _, _ => by simp at hi; subst hi; simp [putM]
  | y :: l, 0, _, _, h2 => by
    have h3 := h2 y rfl
    refine ⟨fun x hx h0 => ?_, fun hne => ?_⟩
    · simp at hx; subst hx
      simp only [putM]
      rw [if_neg h3, if_pos h0]
    · have h4 := hne y rfl
      simp only [putM]
      rw [if_neg h3, if_neg h4]; rfl
  | y :: l, i + 1, hi, h1, h2 => by
    have h3 := h1 0 y rfl (by omega)
    obtain ⟨k1, k2⟩ := putM_split l i (by simpa using hi) (fun j x hj hji => h1 (j + 1) x (by simpa using hj) (by omega)) (fun x hx => h2 x (by simpa using hx))
    refine ⟨fun x hx h0 => ?_, fun hne => ?_⟩
    · simp only [putM]
      rw [if_pos h3, k1 x (by simpa using hx) h0]
    · simp only [putM]
      rw [if_pos h3, k2 fun x hx => hne x (by simpa using hx)]; rfl
-- WALK
/-- a slice of matches as the reference keeps it: nil, or in a block -/
def PutIn (w : World) (v : Value) (l : List (List Bnd)) : Prop := (v = .slice none 0 0 ∧ l = []) ∨ ∃ b o c, v = .slice (some ⟨b, o, none⟩) l.length c ∧ IsMats w v l
theorem PutIn.is {w : World} {v : Value} {l : List (List Bnd)} (h : PutIn w v l) : IsMats w v l := by
  rcases h with ⟨rfl, rfl⟩ | ⟨b, o, c, _, h⟩
  · exact Sl.nil _ _ _ _ _ (Nat.zero_le _)
  · exact h
theorem PutIn.stays {w w' : World} {v : Value} {l : List (List Bnd)} (h : PutIn w v l) (hb : Below w.heap.size w w') : PutIn w' v l := by
  rcases h with h | ⟨b, o, c, h1, h2⟩
  · exact .inl h
  · exact .inr ⟨b, o, c, h1, h2.stays matAt_stays hb⟩
def PutRet (w : World) (l : List (List Bnd)) (e : Ending) (W : World) : Prop := ∃ v, e = .returned v ∧ PutIn W v l ∧ Below w.heap.size w W
theorem putRet_own {w W : World} {B n : Nat} {v : Value} {xs : List Value} {l : List (List Bnd)} (hr : W.ownsRow B 24 1 v n xs) (hn : n = l.length) (h0 : 0 < n) (hm : Means MatAt 1 w xs l) (hb : Below w.heap.size w W) : PutIn W v l := by
  subst hn
  obtain ⟨g, cap, spare, rfl, _, _, _, _⟩ := own_form hr h0
  exact .inr ⟨g, 0, cap, rfl, sl_of_means hm hb hr⟩
set_option maxRecDepth 100000 in
set_option maxHeartbeats 4000000 in
theorem putNil_any (m : List Bnd) (vm : Value) (w : World) (hm : IsBnds w vm m) : Calls Tryz.prog 85 #[.slice none 0 0, .agg #[vm]] w (PutRet w [m]) := by
  have HM := Lib.hid hm
  obtain ⟨Am, cm, rfl, -⟩ := hm
  obtain ⟨j0, hj0, hy0, hy1, hy2⟩ := info_parts info_mat
  go_enter Tryz.func85, Tryz.ntmps85
  go_wp2_with fail
  refine wp_gen fun w0 e0 => ?_
  have hb0 : Below w.heap.size w w0 := by rw [e0]; exact (by repeat (first | exact Below.refl _ _ | assumption | refine Below.drew ?_ | refine bel_al ?_ _ | refine bel_set ?_ (by omega) _ | refine bel_tr ?_ (by assumption)))
  have p0 : w0.cell? ⟨w.heap.size, 0, none⟩ = some (.slice Am m.length cm) := by rw [e0]; go_simp
  obtain ⟨X, hX⟩ : ∃ X, w.heap.size = X := ⟨_, rfl⟩
  rw [hX] at p0 ⊢
  have HB0 := Lib.hid hb0
  have HP0 := Lib.hid p0
  clear e0 hX hb0 p0
  go_loopw [5] (fun i wr => i = .int .i64 0 ∧ Below w0.heap.size w0 wr) (fun i _ => 0)
  case atStart => exact ⟨rfl, Below.refl _ _⟩
  case round =>
    obtain ⟨rfl, hbr⟩ := hrel
    have q0 := cell_stays hbr HP0.out
    go_wp2_with fail
    refine wp_region_F (fun W => W.cell? ⟨X, 0, none⟩ = some (.slice Am m.length cm)) (by repeat (first | exact grows_cell _ _ _ | exact grows_true | refine grows_and ?_ ?_)) (by kernel_rfl) (by kernel_rfl) ?hF ?_; (case hF => (first | exact ⟨‹_›, ‹_›⟩ | (go_simp; done) | (simp [*]; done) | (repeat' (first | (refine And.intro ?_ ?_) | (go_simp; done) | exact cell_stays (bel_al (Below.refl _ _) _) (by assumption) | assumption)))); intro hne hxx; have hG : Hid (Grows (fun W => W.cell? ⟨X, 0, none⟩ = some (.slice Am m.length cm))) := (by repeat (first | exact grows_cell _ _ _ | exact grows_true | refine grows_and ?_ ?_)); (repeat (go_big_quiet_step (fail))); clear hG hxx hne; refine wpQuiet_nil ?_; rintro wq ⟨⟨w', hb', hF'⟩, rfl⟩
    have hb2 := bel_tr hbr hb'
    clear q0 hbr hb'
    go_wp2_with fail
    refine wp_gen fun w3 e3 => ?_
    have hb3 : Below wq.heap.size wq w3 := by rw [e3]; exact (by repeat (first | exact Below.refl _ _ | assumption | refine Below.drew ?_ | refine bel_al ?_ _ | refine bel_set ?_ (by omega) _ | refine bel_tr ?_ (by assumption)))
    have q0 := cell_stays hb3 hF'
    have hb4 := bel_tr hb2 hb3
    clear e3 hF' hb2 hb3
    refine wp_region_F (fun W => W.cell? ⟨X, 0, none⟩ = some (.slice Am m.length cm)) (by repeat (first | exact grows_cell _ _ _ | exact grows_true | refine grows_and ?_ ?_)) (by kernel_rfl) (by kernel_rfl) ?hF ?_; (case hF => (first | exact ⟨‹_›, ‹_›⟩ | (go_simp; done) | (simp [*]; done) | (repeat' (first | (refine And.intro ?_ ?_) | (go_simp; done) | exact cell_stays (bel_al (Below.refl _ _) _) (by assumption) | assumption)))); intro hne hxx; have hG : Hid (Grows (fun W => W.cell? ⟨X, 0, none⟩ = some (.slice Am m.length cm))) := (by repeat (first | exact grows_cell _ _ _ | exact grows_true | refine grows_and ?_ ?_)); (repeat (go_big_quiet_step (fail))); clear hG hxx hne; refine wpQuiet_nil ?_; rintro wq ⟨⟨w', hb', hF'⟩, rfl⟩
    have hb5 := bel_tr hb4 hb'
    clear q0 hb4 hb'
    have q0 := hF'
    have hsz := hb5.size
    clear hF'
    go_wp2_with fail
    go_region_law (first | (refine step_app _ (by rfl) (.tmp 36) (.tmp 39) 26 (by rfl) w0.heap.size 24 j0 _ 1 24 Tryz.underlying26 hj0 hy0 hy1 hy2 rfl (by decide) (.slice none 0 0) 0 [] (by rfl) ⟨by simp, .inl ⟨rfl, rfl⟩⟩ none 0 0 [] (by rfl) (Src.nil _ _ _) (by unfold maxLen; omega) (by omega) (by simp; omega) ?_; intro v7 w7 hown7 hg7 hloc7; have hb7 : Below wq.heap.size wq w7 := (show Below wq.heap.size wq _ from (by repeat (first | exact Below.refl _ _ | assumption | refine Below.drew ?_ | refine bel_al ?_ _ | refine bel_set ?_ (by omega) _ | refine bel_tr ?_ (by assumption)))).trans (grown_below hg7 (by simp) (fun g h => by simp [Value.ownBlock] at h)); have q7 := cell_stays hb7 q0) | (refine step_app _ (by rfl) (.tmp 40) (.tmp 42) 26 (by rfl) w0.heap.size 24 j0 _ 1 24 Tryz.underlying26 hj0 hy0 hy1 hy2 rfl (by decide) v7 (0 + 0) ([] ++ []) (by rfl) (ownsRow_below hown7 (by repeat (first | exact Below.refl _ _ | assumption | refine Below.drew ?_ | refine bel_al ?_ _ | refine bel_set ?_ (by omega) _ | refine bel_tr ?_ (by assumption)))) (some ⟨w7.heap.size, 0, none⟩) 1 1 [.slice Am m.length cm] (by rfl) (by first | exact src_new' _ [.slice Am m.length cm] _ 1 1 _ (by simp) rfl (by simp [Value.oneCell']) | exact Src.stays (src_new' _ [.slice Am m.length cm] 24 1 1 _ (by simp) rfl (by simp [Value.oneCell'])) (by repeat (first | exact Below.refl _ _ | assumption | refine Below.drew ?_ | refine bel_al ?_ _ | refine bel_set ?_ (by omega) _ | refine bel_tr ?_ (by assumption))) | exact src_blk ((hg7.block _ (by simp) (by simp [Value.ownBlock])).trans (by first | exact heap_new' _ _ _ (by simp) | exact (drew_heap _ ▸ heap_new' _ _ _ (by simp)))) rfl (by simp [Value.oneCell'])) (by unfold maxLen; omega) (by omega) (by have := hb7.size; simp; omega) ?_; intro v8 w8 hown8 hg8 hloc8) | (refine step_app _ (by rfl) (.tmp 40) (.tmp 42) 26 (by rfl) w0.heap.size 24 j0 _ 1 24 Tryz.underlying26 hj0 hy0 hy1 hy2 rfl (by decide) v7 (0 + 0) ([] ++ []) (by rfl) (ownsRow_below hown7 (by repeat (first | exact Below.refl _ _ | assumption | refine Below.drew ?_ | refine bel_al ?_ _ | refine bel_set ?_ (by omega) _ | refine bel_tr ?_ (by assumption)))) (some ⟨wq.heap.size, 0, none⟩) 1 1 [.slice Am m.length cm] (by rfl) (by first | exact src_new' _ [.slice Am m.length cm] _ 1 1 _ (by simp) rfl (by simp [Value.oneCell']) | exact Src.stays (src_new' _ [.slice Am m.length cm] 24 1 1 _ (by simp) rfl (by simp [Value.oneCell'])) (by repeat (first | exact Below.refl _ _ | assumption | refine Below.drew ?_ | refine bel_al ?_ _ | refine bel_set ?_ (by omega) _ | refine bel_tr ?_ (by assumption))) | exact src_blk ((hg7.block _ (by simp) (by simp [Value.ownBlock])).trans (by first | exact heap_new' _ _ _ (by simp) | exact (drew_heap _ ▸ heap_new' _ _ _ (by simp)))) rfl (by simp [Value.oneCell'])) (by unfold maxLen; omega) (by omega) (by have := hb7.size; simp; omega) ?_; intro v8 w8 hown8 hg8 hloc8))
    all_goals
      have hb8 : Below w0.heap.size w0 w8 := by
        refine Below.trans ?_ (grown_below hg8 ?_ (fun g h => (ownsRow_lt hown7 h).1))
        · exact bel_tr hb5 (by repeat (first | exact Below.refl _ _ | assumption | refine Below.drew ?_ | refine bel_al ?_ _ | refine bel_set ?_ (by omega) _ | refine bel_tr ?_ (by assumption)))
        · have := hb7.size; simp; omega
      have HO8 := Lib.hid hown8
      have HBE := Lib.hid hb8
      clear hown8 hg8 hloc8 hown7 hg7 hloc7 q7
      go_wp2_with (at_builtin; refine wpList_app _ rfl (.tmp 44) (.tmp 47) 26 rfl w0.heap.size 24 j0 _ 1 24 Tryz.underlying26 hj0 hy0 hy1 hy2 rfl (by decide) v8 (0 + 0 + 1) ([] ++ [] ++ [.slice Am m.length cm]) rfl HO8.out none 0 0 [] rfl (Src.nil _ _ _) (by unfold maxLen; omega) (by omega) (by have := hb8.size; omega) ?_; intro v9 w9 hown9 hg9 hloc9)
      have hb9 : Below w0.heap.size w0 w9 := hb8.trans (grown_below hg9 hb8.size (fun g h => (ownsRow_lt HO8.out h).1))
      have HO9 := Lib.hid hown9
      clear hown9 hg9 hloc9
      go_wp2_with fail
      go_ret
      exact ⟨_, rfl, putRet_own (w := w) HO9.out rfl (by decide) (matMean HM.out) (HB0.out.trans (hb9.mono HB0.out.size)), HB0.out.trans (hb9.mono HB0.out.size)⟩
theorem put_fin {w W : World} {B : Nat} {v : Value} {l : List (List Bnd)} {ms : List MV} {m : List Bnd} {vm : Value} {k : Nat} (hms : ms.map (·.1) = l) (hmb : ∀ e ∈ ms, IsBnds w e.2 e.1) (hk : k ≤ l.length) (_ : 0 + k + 1 + (l.length - k) ≤ 100000) (hp : putM m l = l.take k ++ m :: l.drop k)
    (hr : W.ownsRow B 24 1 v (0 + k + 1 + (l.length - k)) ([] ++ (ms.take k).map (·.2) ++ [vm] ++ (ms.drop k).map (·.2))) (hm : IsBnds w vm m) (hb : Below w.heap.size w W) : ∃ v', Ending.returned v = .returned v' ∧ PutIn W v' (putM m l) ∧ Below w.heap.size w W := by
  refine ⟨v, rfl, ?_, hb⟩
  have h1 := ((mats_means (ms := ms.take k) fun e he => hmb e (List.mem_of_mem_take he)).app (matMean hm)).app (mats_means (ms := ms.drop k) fun e he => hmb e (List.mem_of_mem_drop he))
  have h2 : (ms.take k).map (·.1) ++ [m] ++ (ms.drop k).map (·.1) = putM m l := by rw [hp, ← hms, List.map_take, List.map_drop]; simp
  rw [h2] at h1
  exact putRet_own hr (by rw [hp, List.length_append, List.length_cons, List.length_take, List.length_drop]; omega) (by omega) h1 hb
theorem put_fin0 {w W : World} {B : Nat} {v : Value} {l : List (List Bnd)} {ms : List MV} {m : List Bnd} {vm : Value} {k : Nat} (hms : ms.map (·.1) = l) (hmb : ∀ e ∈ ms, IsBnds w e.2 e.1) (hk : k = l.length) (_ : True) (hp : putM m l = l.take k ++ m :: l.drop k)
    (hr : W.ownsRow B 24 1 v (0 + k + 1 + 0) ([] ++ (ms.take k).map (·.2) ++ [vm] ++ [])) (hm : IsBnds w vm m) (hb : Below w.heap.size w W) : ∃ v', Ending.returned v = .returned v' ∧ PutIn W v' (putM m l) ∧ Below w.heap.size w W := by
  refine ⟨v, rfl, ?_, hb⟩
  have h1 := (mats_means (ms := ms.take k) fun e he => hmb e (List.mem_of_mem_take he)).app (matMean hm)
  have h2 : (ms.take k).map (·.1) ++ [m] = putM m l := by rw [hp, ← hms, List.map_take, hk, ← hms]; simp
  rw [h2] at h1
  refine putRet_own (n := 0 + k + 1) (xs := [] ++ (ms.take k).map (·.2) ++ [vm]) (by simpa using hr) (by rw [hp, List.length_append, List.length_cons, List.length_take, List.length_drop]; omega) (by omega) (by simpa using h1) hb
set_option maxRecDepth 100000 in
set_option maxHeartbeats 8000000 in
theorem put_any (l : List (List Bnd)) (b0 o0 c : Nat) (m : List Bnd) (vm : Value) (w : World) (hl : IsMats w (.slice (some ⟨b0, o0, none⟩) l.length c) l) (hm : IsBnds w vm m) (hlen : l.length ≤ 1000) : Calls Tryz.prog 85 #[.slice (some ⟨b0, o0, none⟩) l.length c, .agg #[vm]] w (PutRet w (putM m l)) := by
  have HM := Lib.hid hm
  have HL := Lib.hid hl
  obtain ⟨Am, cm, rfl, -⟩ := hm
  obtain ⟨ms, hms, hmb, hsrc⟩ := mats_cells hl
  obtain ⟨_, _, hv, hlc, hcm, hat⟩ := hl
  injection hv with e1 e2 e3
  subst e1 e3
  have HAT := Lib.hid hat
  have hn := len_i64 hlc hcm
  have hc63 : (c : Int) ≤ 9223372036854775807 := by unfold maxLen at hcm; omega
  have hml : ms.length = l.length := by rw [← hms, List.length_map]
  have hsA : ∀ k, k ≤ l.length → Src w (some ⟨b0, o0, none⟩) k 1 ((ms.take k).map (·.2)) := fun k hk => by
    refine ⟨by rw [List.length_map, List.length_take]; omega, fun u hu => by obtain ⟨e, he, rfl⟩ := List.mem_map.1 hu; exact sl_oneCell (hmb e (List.mem_of_mem_take he)), fun h0 => ?_⟩
    obtain ⟨b, o, hA, hcs⟩ := hsrc (by omega)
    refine ⟨b, o, hA, fun j u hj => hcs j u ?_⟩
    rw [List.map_take] at hj
    rw [← hj, List.getElem?_take_of_lt]
    have := (List.getElem?_eq_some_iff.1 hj).1
    rw [List.length_take] at this
    omega
  have hsB : ∀ k, k ≤ l.length → Src w (some ⟨b0, o0 + k, none⟩) (l.length - k) 1 ((ms.drop k).map (·.2)) := fun k hk => by
    refine ⟨by rw [List.length_map, List.length_drop]; omega, fun u hu => by obtain ⟨e, he, rfl⟩ := List.mem_map.1 hu; exact sl_oneCell (hmb e (List.mem_of_mem_drop he)), fun h0 => ?_⟩
    obtain ⟨b, o, hA, hcs⟩ := hsrc (by omega)
    injection hA with hA
    injection hA with h1 h2
    subst h1 h2
    refine ⟨b0, o0 + k, rfl, fun j u hj => ?_⟩
    rw [Nat.add_assoc]
    refine hcs (k + j) u ?_
    rw [List.map_drop, List.getElem?_drop] at hj
    exact hj
  have HSAA := Lib.hid hsA
  have HSBB := Lib.hid hsB
  have HMS := Lib.hid hms
  have HMB := Lib.hid hmb
  have HPS := Lib.hid (putM_split (m := m) l)
  obtain ⟨j0, hj0, hy0, hy1, hy2⟩ := info_parts info_mat
  clear hat hsrc hsA hsB hms hmb hml e2 hcm
  go_enter Tryz.func85, Tryz.ntmps85
  go_wp2_with fail
  refine wp_gen fun w0 e0 => ?_
  have hb0 : Below w.heap.size w w0 := by rw [e0]; exact (by repeat (first | exact Below.refl _ _ | assumption | refine Below.drew ?_ | refine bel_al ?_ _ | refine bel_set ?_ (by omega) _ | refine bel_tr ?_ (by assumption)))
  have p0 : w0.cell? ⟨w.heap.size, 0, none⟩ = some (.slice Am m.length cm) := by rw [e0]; go_simp
  obtain ⟨X, hX⟩ : ∃ X, w.heap.size = X := ⟨_, rfl⟩
  rw [hX] at p0 ⊢
  have HB0 := Lib.hid hb0
  have HP0 := Lib.hid p0
  clear e0 hX hb0 p0
  go_loopw [5] (fun i wr => ∃ k : Nat, k ≤ l.length ∧ i = .int .i64 k ∧ Hid ((∀ j x, l[j]? = some x → j < k → bsC x m < 0) ∧ Below w0.heap.size w0 wr)) (fun i _ => l.length - (intOf i).toNat)
  case atStart => exact ⟨0, Nat.zero_le _, rfl, Lib.hid ⟨fun j x _ h => absurd h (by omega), Below.refl _ _⟩⟩
  case round =>
    obtain ⟨k, hk, rfl, hI⟩ := hrel
    have hbr := hI.out.2
    have q0 := cell_stays hbr HP0.out
    have hbw := HB0.out.trans (hbr.mono HB0.out.size)
    have HSA := Lib.hid (HSAA.out k hk)
    have HSB := Lib.hid (HSBB.out k hk)
    by_cases hlt : k < l.length
    · have hk' : (k : Int) < (l.length : Int) := by omega
      have hkc : (k : Int) < (c : Int) := by omega
      have hkcn : k < c := by omega
      have hkc0 : (k : Int) ≤ (c : Int) := by omega
      have hkcN : k ≤ c := by omega
      have hkl : (k : Int) ≤ (l.length : Int) := by omega
      obtain ⟨_, _, hA, vx, hvx, cx0⟩ := HAT.out k l[k] (List.getElem?_eq_getElem hlt)
      injection hA with hA
      injection hA with h1 h2
      subst h1 h2
      replace cx0 := cell_stays hbw cx0
      rw [Nat.mul_one] at cx0
      have hget := Lib.hid (List.getElem?_eq_getElem hlt)
      obtain ⟨x, hx⟩ : ∃ x, x = l[k] := ⟨_, rfl⟩
      rw [← hx] at hget hvx
      have HX := Lib.hid (hvx.stays bndAt_stays hbw)
      obtain ⟨Ax, cx, rfl, -⟩ := hvx
      obtain ⟨r, hr⟩ : ∃ r, bsC x m = r := ⟨_, rfl⟩
      have HRR := Lib.hid (fun W (hW : Below wr.heap.size wr W) => gr_bel (rcompare_any x m _ _ W (HX.out.stays bndAt_stays hW) (HM.out.stays bndAt_stays (bel_tr hbw hW))) hr)
      unfold matV at HRR
      have HR := Lib.hid hr
      clear hx hr
      go_wp2_with fail
      refine wp_region_F (fun W => W.cell? ⟨X, 0, none⟩ = some (.slice Am m.length cm) ∧ W.cell? ⟨b0, o0 + k, none⟩ = some (.slice Ax x.length cx)) (by repeat (first | exact grows_cell _ _ _ | exact grows_true | refine grows_and ?_ ?_)) (by kernel_rfl) (by kernel_rfl) ?hF ?_; (case hF => (first | exact ⟨‹_›, ‹_›⟩ | (go_simp; done) | (simp [*]; done) | (repeat' (first | (refine And.intro ?_ ?_) | (go_simp; done) | exact cell_stays (bel_al (Below.refl _ _) _) (by assumption) | assumption)))); intro hne hxx; have hG : Hid (Grows (fun W => W.cell? ⟨X, 0, none⟩ = some (.slice Am m.length cm) ∧ W.cell? ⟨b0, o0 + k, none⟩ = some (.slice Ax x.length cx))) := (by repeat (first | exact grows_cell _ _ _ | exact grows_true | refine grows_and ?_ ?_)); (repeat (go_big_quiet_step ((go_at_call 17; exact cls_callB hG (fun W hW => HRR.out W hW))))); clear hG hxx hne; refine wpQuiet_nil ?_; rintro wq ⟨⟨w', hb', hF'⟩, rfl⟩
      clear q0 cx0
      obtain ⟨q0, cx0⟩ := hF'
      by_cases hr0 : r < 0
      · have hd1 : decide (r < 0) = true := by simpa using hr0
        have HR0 := Lib.hid hr0
        go_wp2_with fail
        go_roundw
        case rel =>
          refine ⟨k + 1, by omega, by go_num, Lib.hid ⟨?_, bel_tr hbr hb'⟩⟩
          intro j y hj hjk
          rcases Nat.lt_or_eq_of_le (Nat.le_of_lt_succ hjk) with h | h
          · exact hI.out.1 j y hj h
          · subst h; rw [hget.out] at hj; injection hj with hj; subst hj; rw [HR.out]; exact HR0.out
        case measure => simp [intOf]; omega
      · have hd1 : decide (r < 0) = false := by simpa using hr0
        have hr0' : 0 ≤ r := by omega
        have hspl := HPS.out k hk hI.out.1 (fun y hy => by rw [hget.out] at hy; injection hy with hy; subst hy; rw [HR.out]; omega)
        have HSPL := Lib.hid hspl
        have HBP := Lib.hid hb'
        have HB4 := Lib.hid (bel_tr hbr hb')
        have HBW4 := Lib.hid (bel_tr hbw hb')
        clear hspl hb' hbr hbw hI
        obtain ⟨wp, rfl⟩ : ∃ wp : World, wp = wq := ⟨_, rfl⟩
        go_wp2_with fail
        refine wp_region_F (fun W => W.cell? ⟨X, 0, none⟩ = some (.slice Am m.length cm) ∧ W.cell? ⟨b0, o0 + k, none⟩ = some (.slice Ax x.length cx)) (by repeat (first | exact grows_cell _ _ _ | exact grows_true | refine grows_and ?_ ?_)) (by kernel_rfl) (by kernel_rfl) ?hF ?_; (case hF => (first | exact ⟨‹_›, ‹_›⟩ | (go_simp; done) | (simp [*]; done) | (repeat' (first | (refine And.intro ?_ ?_) | (go_simp; done) | exact cell_stays (bel_al (Below.refl _ _) _) (by assumption) | assumption)))); intro hne hxx; have hG : Hid (Grows (fun W => W.cell? ⟨X, 0, none⟩ = some (.slice Am m.length cm) ∧ W.cell? ⟨b0, o0 + k, none⟩ = some (.slice Ax x.length cx))) := (by repeat (first | exact grows_cell _ _ _ | exact grows_true | refine grows_and ?_ ?_)); (repeat (go_big_quiet_step ((go_at_call 17; exact cls_callB hG (fun W hW => HRR.out W (bel_tr HBP.out hW)))))); clear hG hxx hne; refine wpQuiet_nil ?_; rintro wq ⟨⟨w', hb', hF'⟩, rfl⟩
        clear q0 cx0
        obtain ⟨q0, cx0⟩ := hF'
        have hb5 := bel_tr HB4.out hb'
        have HBW5 := Lib.hid (bel_tr HBW4.out hb')
        have hsz := hb5.size
        clear hb' cx0
        by_cases hr1 : r = 0
        · have hd2 : (r == 0) = true := by simpa using hr1
          have HPE : Hid (putM m l = l) := Lib.hid (HSPL.out.1 x hget.out (by rw [HR.out]; exact hr1))
          go_wp2_with fail
          go_ret
          rw [HPE.out]
          exact ⟨_, rfl, .inr ⟨b0, o0, c, rfl, HL.out.stays matAt_stays HBW5.out⟩, HBW5.out⟩
        · have hd2 : (r == 0) = false := by simpa using hr1
          have HPM : Hid (putM m l = l.take k ++ m :: l.drop k) := Lib.hid (HSPL.out.2 fun y hy => by rw [hget.out] at hy; injection hy with hy; subst hy; rw [HR.out]; exact hr1)
          clear hr1 hr0
          go_wp2_with fail
          go_region_law (first | (refine step_app _ (by rfl) (.tmp 36) (.tmp 39) 26 (by rfl) w0.heap.size 24 j0 _ 1 24 Tryz.underlying26 hj0 hy0 hy1 hy2 rfl (by decide) (.slice none 0 0) 0 [] (by rfl) ⟨by simp, .inl ⟨rfl, rfl⟩⟩ (some ⟨b0, o0, none⟩) k c ((ms.take k).map (·.2)) (by rfl) (Src.stays HSA.out (bel_tr HBW5.out (by repeat (first | exact Below.refl _ _ | assumption | refine Below.drew ?_ | refine bel_al ?_ _ | refine bel_set ?_ (by omega) _ | refine bel_tr ?_ (by assumption))))) (by unfold maxLen; omega) (by omega) (by simp; omega) ?_; intro v7 w7 hown7 hg7 hloc7; have hb7 : Below wq.heap.size wq w7 := (show Below wq.heap.size wq _ from (by repeat (first | exact Below.refl _ _ | assumption | refine Below.drew ?_ | refine bel_al ?_ _ | refine bel_set ?_ (by omega) _ | refine bel_tr ?_ (by assumption)))).trans (grown_below hg7 (by simp) (fun g h => by simp [Value.ownBlock] at h)); have q7 := cell_stays hb7 q0) | (refine step_app _ (by rfl) (.tmp 40) (.tmp 42) 26 (by rfl) w0.heap.size 24 j0 _ 1 24 Tryz.underlying26 hj0 hy0 hy1 hy2 rfl (by decide) v7 (0 + k) ([] ++ ((ms.take k).map (·.2))) (by rfl) (ownsRow_below hown7 (by repeat (first | exact Below.refl _ _ | assumption | refine Below.drew ?_ | refine bel_al ?_ _ | refine bel_set ?_ (by omega) _ | refine bel_tr ?_ (by assumption)))) (some ⟨w7.heap.size, 0, none⟩) 1 1 [.slice Am m.length cm] (by rfl) (by first | exact src_new' _ [.slice Am m.length cm] _ 1 1 _ (by simp) rfl (by simp [Value.oneCell']) | exact Src.stays (src_new' _ [.slice Am m.length cm] 24 1 1 _ (by simp) rfl (by simp [Value.oneCell'])) (by repeat (first | exact Below.refl _ _ | assumption | refine Below.drew ?_ | refine bel_al ?_ _ | refine bel_set ?_ (by omega) _ | refine bel_tr ?_ (by assumption))) | exact src_blk ((hg7.block _ (by simp) (by simp [Value.ownBlock])).trans (by first | exact heap_new' _ _ _ (by simp) | exact (drew_heap _ ▸ heap_new' _ _ _ (by simp)))) rfl (by simp [Value.oneCell'])) (by unfold maxLen; omega) (by omega) (by have := hb7.size; simp; omega) ?_; intro v8 w8 hown8 hg8 hloc8) | (refine step_app _ (by rfl) (.tmp 40) (.tmp 42) 26 (by rfl) w0.heap.size 24 j0 _ 1 24 Tryz.underlying26 hj0 hy0 hy1 hy2 rfl (by decide) v7 (0 + k) ([] ++ ((ms.take k).map (·.2))) (by rfl) (ownsRow_below hown7 (by repeat (first | exact Below.refl _ _ | assumption | refine Below.drew ?_ | refine bel_al ?_ _ | refine bel_set ?_ (by omega) _ | refine bel_tr ?_ (by assumption)))) (some ⟨wq.heap.size, 0, none⟩) 1 1 [.slice Am m.length cm] (by rfl) (by first | exact src_new' _ [.slice Am m.length cm] _ 1 1 _ (by simp) rfl (by simp [Value.oneCell']) | exact Src.stays (src_new' _ [.slice Am m.length cm] 24 1 1 _ (by simp) rfl (by simp [Value.oneCell'])) (by repeat (first | exact Below.refl _ _ | assumption | refine Below.drew ?_ | refine bel_al ?_ _ | refine bel_set ?_ (by omega) _ | refine bel_tr ?_ (by assumption))) | exact src_blk ((hg7.block _ (by simp) (by simp [Value.ownBlock])).trans (by first | exact heap_new' _ _ _ (by simp) | exact (drew_heap _ ▸ heap_new' _ _ _ (by simp)))) rfl (by simp [Value.oneCell'])) (by unfold maxLen; omega) (by omega) (by have := hb7.size; simp; omega) ?_; intro v8 w8 hown8 hg8 hloc8))
          all_goals
            have hb8 : Below w0.heap.size w0 w8 := by
              refine Below.trans ?_ (grown_below hg8 ?_ (fun g h => (ownsRow_lt hown7 h).1))
              · exact bel_tr hb5 (by repeat (first | exact Below.refl _ _ | assumption | refine Below.drew ?_ | refine bel_al ?_ _ | refine bel_set ?_ (by omega) _ | refine bel_tr ?_ (by assumption)))
              · have := hb7.size; simp; omega
            have HO8 := Lib.hid hown8
            have HBE := Lib.hid hb8
            clear hown8 hg8 hloc8 hown7 hg7 hloc7 q7
            go_wp2_with (at_builtin; refine wpList_app _ rfl (.tmp 44) (.tmp 47) 26 rfl w0.heap.size 24 j0 _ 1 24 Tryz.underlying26 hj0 hy0 hy1 hy2 rfl (by decide) v8 (0 + k + 1) ([] ++ ((ms.take k).map (·.2)) ++ [.slice Am m.length cm]) rfl HO8.out (some ⟨b0, o0 + k, none⟩) (l.length - k) (c - k) ((ms.drop k).map (·.2)) rfl (Src.stays HSB.out (HB0.out.trans (hb8.mono HB0.out.size))) (by unfold maxLen; omega) (by omega) (by have := hb8.size; omega) ?_; intro v9 w9 hown9 hg9 hloc9)
            have hb9 : Below w0.heap.size w0 w9 := hb8.trans (grown_below hg9 hb8.size (fun g h => (ownsRow_lt HO8.out h).1))
            have HO9 := Lib.hid hown9
            clear hown9 hg9 hloc9
            go_wp2_with fail
            go_ret
            exact put_fin HMS.out HMB.out (by omega) (by omega) HPM.out HO9.out HM.out (HB0.out.trans (hb9.mono HB0.out.size))

    · have hk' : ¬ (k : Int) < (l.length : Int) := by omega
      have hke : k = l.length := by omega
      have HKE := Lib.hid hke
      have hkl : (k : Int) ≤ (l.length : Int) := by omega
      have hkc0 : (k : Int) ≤ (c : Int) := by omega
      have hkcN : k ≤ c := by omega
      have HPM : Hid (putM m l = l.take k ++ m :: l.drop k) := Lib.hid ((HPS.out k hk hI.out.1 (fun y hy => by have := (List.getElem?_eq_some_iff.1 hy).1; omega)).2 fun y hy => by have := (List.getElem?_eq_some_iff.1 hy).1; omega)
      have HBR := Lib.hid hbr
      have HBW := Lib.hid hbw
      clear hI hbr hbw hke
      go_wp2_with fail
      refine wp_region_F (fun W => W.cell? ⟨X, 0, none⟩ = some (.slice Am m.length cm)) (by repeat (first | exact grows_cell _ _ _ | exact grows_true | refine grows_and ?_ ?_)) (by kernel_rfl) (by kernel_rfl) ?hF ?_; (case hF => (first | exact ⟨‹_›, ‹_›⟩ | (go_simp; done) | (simp [*]; done) | (repeat' (first | (refine And.intro ?_ ?_) | (go_simp; done) | exact cell_stays (bel_al (Below.refl _ _) _) (by assumption) | assumption)))); intro hne hxx; have hG : Hid (Grows (fun W => W.cell? ⟨X, 0, none⟩ = some (.slice Am m.length cm))) := (by repeat (first | exact grows_cell _ _ _ | exact grows_true | refine grows_and ?_ ?_)); (repeat (go_big_quiet_step (fail))); clear hG hxx hne; refine wpQuiet_nil ?_; rintro wq ⟨⟨w', hb', hF'⟩, rfl⟩
      have HB4 := Lib.hid (bel_tr HBR.out hb')
      have HBW4 := Lib.hid (bel_tr HBW.out hb')
      clear q0 hb'
      have q0 := hF'
      clear hF'
      obtain ⟨wp, rfl⟩ : ∃ wp : World, wp = wq := ⟨_, rfl⟩
      go_wp2_with fail
      refine wp_region_F (fun W => W.cell? ⟨X, 0, none⟩ = some (.slice Am m.length cm)) (by repeat (first | exact grows_cell _ _ _ | exact grows_true | refine grows_and ?_ ?_)) (by kernel_rfl) (by kernel_rfl) ?hF ?_; (case hF => (first | exact ⟨‹_›, ‹_›⟩ | (go_simp; done) | (simp [*]; done) | (repeat' (first | (refine And.intro ?_ ?_) | (go_simp; done) | exact cell_stays (bel_al (Below.refl _ _) _) (by assumption) | assumption)))); intro hne hxx; have hG : Hid (Grows (fun W => W.cell? ⟨X, 0, none⟩ = some (.slice Am m.length cm))) := (by repeat (first | exact grows_cell _ _ _ | exact grows_true | refine grows_and ?_ ?_)); (repeat (go_big_quiet_step (fail))); clear hG hxx hne; refine wpQuiet_nil ?_; rintro wq ⟨⟨w', hb', hF'⟩, rfl⟩
      have hb5 := bel_tr HB4.out hb'
      have HBW5 := Lib.hid (bel_tr HBW4.out hb')
      have hsz := hb5.size
      clear q0 hb'
      have q0 := hF'
      clear hF'
      by_cases hkcn : k < c
      · have hkc : (k : Int) < (c : Int) := by omega
        go_wp2_with fail
        go_region_law (first | (refine step_app _ (by rfl) (.tmp 36) (.tmp 39) 26 (by rfl) w0.heap.size 24 j0 _ 1 24 Tryz.underlying26 hj0 hy0 hy1 hy2 rfl (by decide) (.slice none 0 0) 0 [] (by rfl) ⟨by simp, .inl ⟨rfl, rfl⟩⟩ (some ⟨b0, o0, none⟩) k c ((ms.take k).map (·.2)) (by rfl) (Src.stays HSA.out (bel_tr HBW5.out (by repeat (first | exact Below.refl _ _ | assumption | refine Below.drew ?_ | refine bel_al ?_ _ | refine bel_set ?_ (by omega) _ | refine bel_tr ?_ (by assumption))))) (by unfold maxLen; omega) (by omega) (by simp; omega) ?_; intro v7 w7 hown7 hg7 hloc7; have hb7 : Below wq.heap.size wq w7 := (show Below wq.heap.size wq _ from (by repeat (first | exact Below.refl _ _ | assumption | refine Below.drew ?_ | refine bel_al ?_ _ | refine bel_set ?_ (by omega) _ | refine bel_tr ?_ (by assumption)))).trans (grown_below hg7 (by simp) (fun g h => by simp [Value.ownBlock] at h)); have q7 := cell_stays hb7 q0) | (refine step_app _ (by rfl) (.tmp 40) (.tmp 42) 26 (by rfl) w0.heap.size 24 j0 _ 1 24 Tryz.underlying26 hj0 hy0 hy1 hy2 rfl (by decide) v7 (0 + k) ([] ++ ((ms.take k).map (·.2))) (by rfl) (ownsRow_below hown7 (by repeat (first | exact Below.refl _ _ | assumption | refine Below.drew ?_ | refine bel_al ?_ _ | refine bel_set ?_ (by omega) _ | refine bel_tr ?_ (by assumption)))) (some ⟨w7.heap.size, 0, none⟩) 1 1 [.slice Am m.length cm] (by rfl) (by first | exact src_new' _ [.slice Am m.length cm] _ 1 1 _ (by simp) rfl (by simp [Value.oneCell']) | exact Src.stays (src_new' _ [.slice Am m.length cm] 24 1 1 _ (by simp) rfl (by simp [Value.oneCell'])) (by repeat (first | exact Below.refl _ _ | assumption | refine Below.drew ?_ | refine bel_al ?_ _ | refine bel_set ?_ (by omega) _ | refine bel_tr ?_ (by assumption))) | exact src_blk ((hg7.block _ (by simp) (by simp [Value.ownBlock])).trans (by first | exact heap_new' _ _ _ (by simp) | exact (drew_heap _ ▸ heap_new' _ _ _ (by simp)))) rfl (by simp [Value.oneCell'])) (by unfold maxLen; omega) (by omega) (by have := hb7.size; simp; omega) ?_; intro v8 w8 hown8 hg8 hloc8) | (refine step_app _ (by rfl) (.tmp 40) (.tmp 42) 26 (by rfl) w0.heap.size 24 j0 _ 1 24 Tryz.underlying26 hj0 hy0 hy1 hy2 rfl (by decide) v7 (0 + k) ([] ++ ((ms.take k).map (·.2))) (by rfl) (ownsRow_below hown7 (by repeat (first | exact Below.refl _ _ | assumption | refine Below.drew ?_ | refine bel_al ?_ _ | refine bel_set ?_ (by omega) _ | refine bel_tr ?_ (by assumption)))) (some ⟨wq.heap.size, 0, none⟩) 1 1 [.slice Am m.length cm] (by rfl) (by first | exact src_new' _ [.slice Am m.length cm] _ 1 1 _ (by simp) rfl (by simp [Value.oneCell']) | exact Src.stays (src_new' _ [.slice Am m.length cm] 24 1 1 _ (by simp) rfl (by simp [Value.oneCell'])) (by repeat (first | exact Below.refl _ _ | assumption | refine Below.drew ?_ | refine bel_al ?_ _ | refine bel_set ?_ (by omega) _ | refine bel_tr ?_ (by assumption))) | exact src_blk ((hg7.block _ (by simp) (by simp [Value.ownBlock])).trans (by first | exact heap_new' _ _ _ (by simp) | exact (drew_heap _ ▸ heap_new' _ _ _ (by simp)))) rfl (by simp [Value.oneCell'])) (by unfold maxLen; omega) (by omega) (by have := hb7.size; simp; omega) ?_; intro v8 w8 hown8 hg8 hloc8))
        all_goals
          have hb8 : Below w0.heap.size w0 w8 := by
            refine Below.trans ?_ (grown_below hg8 ?_ (fun g h => (ownsRow_lt hown7 h).1))
            · exact bel_tr hb5 (by repeat (first | exact Below.refl _ _ | assumption | refine Below.drew ?_ | refine bel_al ?_ _ | refine bel_set ?_ (by omega) _ | refine bel_tr ?_ (by assumption)))
            · have := hb7.size; simp; omega
          have HO8 := Lib.hid hown8
          have HBE := Lib.hid hb8
          clear hown8 hg8 hloc8 hown7 hg7 hloc7 q7
          go_wp2_with (at_builtin; refine wpList_app _ rfl (.tmp 44) (.tmp 47) 26 rfl w0.heap.size 24 j0 _ 1 24 Tryz.underlying26 hj0 hy0 hy1 hy2 rfl (by decide) v8 (0 + k + 1) ([] ++ ((ms.take k).map (·.2)) ++ [.slice Am m.length cm]) rfl HO8.out (some ⟨b0, o0 + k, none⟩) (l.length - k) (c - k) ((ms.drop k).map (·.2)) rfl (Src.stays HSB.out (HB0.out.trans (hb8.mono HB0.out.size))) (by unfold maxLen; omega) (by omega) (by have := hb8.size; omega) ?_; intro v9 w9 hown9 hg9 hloc9)
          have hb9 : Below w0.heap.size w0 w9 := hb8.trans (grown_below hg9 hb8.size (fun g h => (ownsRow_lt HO8.out h).1))
          have HO9 := Lib.hid hown9
          clear hown9 hg9 hloc9
          go_wp2_with fail
          go_ret
          exact put_fin HMS.out HMB.out (by omega) (by omega) HPM.out HO9.out HM.out (HB0.out.trans (hb9.mono HB0.out.size))

      · have hck : k = c := by omega
        subst hck
        go_wp2_with fail
        go_region_law (first | (refine step_app _ (by rfl) (.tmp 36) (.tmp 39) 26 (by rfl) w0.heap.size 24 j0 _ 1 24 Tryz.underlying26 hj0 hy0 hy1 hy2 rfl (by decide) (.slice none 0 0) 0 [] (by rfl) ⟨by simp, .inl ⟨rfl, rfl⟩⟩ (some ⟨b0, o0, none⟩) k k ((ms.take k).map (·.2)) (by rfl) (Src.stays HSA.out (bel_tr HBW5.out (by repeat (first | exact Below.refl _ _ | assumption | refine Below.drew ?_ | refine bel_al ?_ _ | refine bel_set ?_ (by omega) _ | refine bel_tr ?_ (by assumption))))) (by unfold maxLen; omega) (by omega) (by simp; omega) ?_; intro v7 w7 hown7 hg7 hloc7; have hb7 : Below wq.heap.size wq w7 := (show Below wq.heap.size wq _ from (by repeat (first | exact Below.refl _ _ | assumption | refine Below.drew ?_ | refine bel_al ?_ _ | refine bel_set ?_ (by omega) _ | refine bel_tr ?_ (by assumption)))).trans (grown_below hg7 (by simp) (fun g h => by simp [Value.ownBlock] at h)); have q7 := cell_stays hb7 q0) | (refine step_app _ (by rfl) (.tmp 40) (.tmp 42) 26 (by rfl) w0.heap.size 24 j0 _ 1 24 Tryz.underlying26 hj0 hy0 hy1 hy2 rfl (by decide) v7 (0 + k) ([] ++ ((ms.take k).map (·.2))) (by rfl) (ownsRow_below hown7 (by repeat (first | exact Below.refl _ _ | assumption | refine Below.drew ?_ | refine bel_al ?_ _ | refine bel_set ?_ (by omega) _ | refine bel_tr ?_ (by assumption)))) (some ⟨w7.heap.size, 0, none⟩) 1 1 [.slice Am m.length cm] (by rfl) (by first | exact src_new' _ [.slice Am m.length cm] _ 1 1 _ (by simp) rfl (by simp [Value.oneCell']) | exact Src.stays (src_new' _ [.slice Am m.length cm] 24 1 1 _ (by simp) rfl (by simp [Value.oneCell'])) (by repeat (first | exact Below.refl _ _ | assumption | refine Below.drew ?_ | refine bel_al ?_ _ | refine bel_set ?_ (by omega) _ | refine bel_tr ?_ (by assumption))) | exact src_blk ((hg7.block _ (by simp) (by simp [Value.ownBlock])).trans (by first | exact heap_new' _ _ _ (by simp) | exact (drew_heap _ ▸ heap_new' _ _ _ (by simp)))) rfl (by simp [Value.oneCell'])) (by unfold maxLen; omega) (by omega) (by have := hb7.size; simp; omega) ?_; intro v8 w8 hown8 hg8 hloc8) | (refine step_app _ (by rfl) (.tmp 40) (.tmp 42) 26 (by rfl) w0.heap.size 24 j0 _ 1 24 Tryz.underlying26 hj0 hy0 hy1 hy2 rfl (by decide) v7 (0 + k) ([] ++ ((ms.take k).map (·.2))) (by rfl) (ownsRow_below hown7 (by repeat (first | exact Below.refl _ _ | assumption | refine Below.drew ?_ | refine bel_al ?_ _ | refine bel_set ?_ (by omega) _ | refine bel_tr ?_ (by assumption)))) (some ⟨wq.heap.size, 0, none⟩) 1 1 [.slice Am m.length cm] (by rfl) (by first | exact src_new' _ [.slice Am m.length cm] _ 1 1 _ (by simp) rfl (by simp [Value.oneCell']) | exact Src.stays (src_new' _ [.slice Am m.length cm] 24 1 1 _ (by simp) rfl (by simp [Value.oneCell'])) (by repeat (first | exact Below.refl _ _ | assumption | refine Below.drew ?_ | refine bel_al ?_ _ | refine bel_set ?_ (by omega) _ | refine bel_tr ?_ (by assumption))) | exact src_blk ((hg7.block _ (by simp) (by simp [Value.ownBlock])).trans (by first | exact heap_new' _ _ _ (by simp) | exact (drew_heap _ ▸ heap_new' _ _ _ (by simp)))) rfl (by simp [Value.oneCell'])) (by unfold maxLen; omega) (by omega) (by have := hb7.size; simp; omega) ?_; intro v8 w8 hown8 hg8 hloc8))
        all_goals
          have hb8 : Below w0.heap.size w0 w8 := by
            refine Below.trans ?_ (grown_below hg8 ?_ (fun g h => (ownsRow_lt hown7 h).1))
            · exact bel_tr hb5 (by repeat (first | exact Below.refl _ _ | assumption | refine Below.drew ?_ | refine bel_al ?_ _ | refine bel_set ?_ (by omega) _ | refine bel_tr ?_ (by assumption)))
            · have := hb7.size; simp; omega
          have HO8 := Lib.hid hown8
          have HBE := Lib.hid hb8
          clear hown8 hg8 hloc8 hown7 hg7 hloc7 q7
          go_wp2_with (at_builtin; refine wpList_app _ rfl (.tmp 44) (.tmp 47) 26 rfl w0.heap.size 24 j0 _ 1 24 Tryz.underlying26 hj0 hy0 hy1 hy2 rfl (by decide) v8 (0 + k + 1) ([] ++ ((ms.take k).map (·.2)) ++ [.slice Am m.length cm]) rfl HO8.out (some ⟨b0, o0, none⟩) 0 0 [] rfl (Src.nil _ _ _) (by unfold maxLen; omega) (by omega) (by have := hb8.size; omega) ?_; intro v9 w9 hown9 hg9 hloc9)
          have hb9 : Below w0.heap.size w0 w9 := hb8.trans (grown_below hg9 hb8.size (fun g h => (ownsRow_lt HO8.out h).1))
          have HO9 := Lib.hid hown9
          clear hown9 hg9 hloc9
          go_wp2_with fail
          go_ret
          exact put_fin0 HMS.out HMB.out HKE.out trivial HPM.out HO9.out HM.out (HB0.out.trans (hb9.mono HB0.out.size))
end
section
open Go.RowKit Go.Shelf
theorem put_in (S : List (List Bnd)) (m : List Bnd) (v vm : Value) (w : World) (h : PutIn w v S) (hm : IsBnds w vm m) (hlen : S.length ≤ 1000) : Calls Tryz.prog 85 #[v, .agg #[vm]] w (PutRet w (putM m S)) := by
  rcases h with ⟨rfl, rfl⟩ | ⟨b, o, c, rfl, h⟩
  · exact putNil_any m vm w hm
  · exact put_any S b o c m vm w h hm hlen
def foldM (l : List (List Bnd)) : List (List Bnd) := l.foldl (fun S m => putM m S) []
theorem foldM_take {l : List (List Bnd)} {k : Nat} {x : List Bnd} (h : l[k]? = some x) : foldM (l.take (k + 1)) = putM x (foldM (l.take k)) := by
  unfold foldM; rw [take_snoc' h, List.foldl_append]; rfl
theorem putM_len (m : List Bnd) : ∀ l, (putM m l).length ≤ l.length + 1
  | [] => by simp [putM]
  | x :: l => by
    have := putM_len m l
    simp only [putM]
    split
    · simp; omega
    · split <;> simp
theorem foldM_len (l : List (List Bnd)) : (foldM l).length ≤ l.length := by
  unfold foldM
  have : ∀ S : List (List Bnd), (l.foldl (fun S m => putM m S) S).length ≤ S.length + l.length := by
    induction l with
    | nil => intro S; simp
    | cons x l ih => intro S; have h1 := ih (putM x S); have h2 := putM_len x S; rw [List.foldl_cons, List.length_cons]; omega
  simpa using this []
theorem putIn_form {w : World} {v : Value} {l : List (List Bnd)} (h : PutIn w v l) : ∃ A c, v = .slice A l.length c := sl_form h.is
set_option maxRecDepth 100000 in
set_option maxHeartbeats 4000000 in
theorem rsorted_any (l : List (List Bnd)) (v : Value) (w : World) (hl : IsMats w v l) (hlen : l.length ≤ 900) : Calls Tryz.prog 60 #[v] w fun e W => ∃ v', e = .returned v' ∧ IsMats W v' (sortM l) ∧ Below w.heap.size w W := by
  obtain ⟨A, c, rfl, h1, h2, hat⟩ := hl
  have hn := len_i64 h1 h2
  have HL := Lib.hid hat
  clear hat h1 h2
  obtain ⟨R, hR⟩ : ∃ R, sortM l = R := ⟨_, rfl⟩
  have HR : Hid (foldM l = R) := Lib.hid hR
  rw [hR]
  clear hR
  go_enter Tryz.func60, Tryz.ntmps60
  go_wp2_with fail
  go_loopw [3, 4] (fun ov i wr => ∃ k : Nat, k ≤ l.length ∧ i = .int .i64 k ∧ Hid (PutIn wr ov (foldM (l.take k)) ∧ Below w.heap.size w wr)) (fun _ i _ => l.length - (intOf i).toNat)
  case atStart => exact ⟨0, Nat.zero_le _, rfl, Lib.hid ⟨.inl ⟨rfl, rfl⟩, Below.refl _ _⟩⟩
  case round =>
    obtain ⟨k, hk, rfl, hI⟩ := hrel
    have hbr := hI.out.2
    by_cases hlt : k < l.length
    · have hk' : (k : Int) < (l.length : Int) := by omega
      obtain ⟨b, o, rfl, v', hv', c0⟩ := HL.out k l[k] (List.getElem?_eq_getElem hlt)
      replace c0 := cell_stays hbr c0
      rw [Nat.mul_one] at c0
      have hget := Lib.hid (List.getElem?_eq_getElem hlt)
      obtain ⟨x, hx⟩ : ∃ x, x = l[k] := ⟨_, rfl⟩
      rw [← hx] at hget hv'
      have HV := Lib.hid (hv'.stays bndAt_stays hbr)
      obtain ⟨A', c', rfl, -⟩ := hv'
      clear hx
      have hfl : (foldM (l.take k)).length ≤ 1000 := by have := foldM_len (l.take k); rw [List.length_take] at this; omega
      have HPI := Lib.hid hI.out.1
      have HFL := Lib.hid hfl
      obtain ⟨A3, c3, hu⟩ := putIn_form hI.out.1
      clear hfl hI
      subst hu
      go_wp2_with fail
      refine (put_in (foldM (l.take k)) x _ _ wr HPI.out HV.out HFL.out).mono ?_
      rw [← foldM_take hget.out]
      rintro e w3 ⟨v3, rfl, hp3, hb3⟩
      have HP3 := Lib.hid hp3
      have HB3 := Lib.hid (bel_tr hbr hb3)
      obtain ⟨A4, c4, hu4⟩ := putIn_form hp3
      subst hu4
      clear hp3 hb3
      go_wp2_with fail
      go_roundw
      case rel => exact ⟨k + 1, by omega, by go_num, Lib.hid ⟨HP3.out, HB3.out⟩⟩
      case measure => simp [intOf]; omega
    · have hk' : ¬ (k : Int) < (l.length : Int) := by omega
      have hke : k = l.length := by omega
      have hI1 := hI.out
      rw [hke, List.take_length, HR.out] at hI1
      have HI := Lib.hid hI1
      obtain ⟨A3, c3, hu⟩ := putIn_form hI1.1
      clear hI hI1 hke
      subst hu
      go_wp2_with fail
      go_ret
      exact ⟨_, rfl, HI.out.1.is, HI.out.2⟩
set_option maxRecDepth 100000 in
set_option maxHeartbeats 4000000 in
theorem rsort_any (l : List (List Bnd)) (v : Value) (w : World) (hl : IsMats w v l) (hlen : l.length ≤ 900) : Calls Tryz.prog 19 #[v] w (MatRet w (sortR l)) := by
  have HA := Lib.hid hl
  obtain ⟨A, c, rfl, h1, h2, hat⟩ := hl
  have hn := len_i64 h1 h2
  have HL := Lib.hid hat
  clear hat h1 h2
  obtain ⟨R, hR⟩ : ∃ R, sortR l = R := ⟨_, rfl⟩
  have HR := Lib.hid hR
  rw [hR]
  clear hR
  go_enter Tryz.func19, Tryz.ntmps19
  go_wp2_with fail
  go_loopw [4] (fun i wr => ∃ k : Nat, k ≤ l.length ∧ i = .int .i64 k ∧ Hid (scanE (fun _ m => matErr m) (prevL l k) (l.drop k) = matsErr l ∧ Below w.heap.size w wr)) (fun i _ => l.length - (intOf i).toNat)
  case atStart => exact ⟨0, Nat.zero_le _, rfl, Lib.hid ⟨rfl, Below.refl _ _⟩⟩
  case round =>
    obtain ⟨k, hk, rfl, hI⟩ := hrel
    have hbr := hI.out.2
    by_cases hlt : k < l.length
    · have hk' : (k : Int) < (l.length : Int) := by omega
      obtain ⟨b, o, rfl, v', hv', c0⟩ := HL.out k l[k] (List.getElem?_eq_getElem hlt)
      replace c0 := cell_stays hbr c0
      rw [Nat.mul_one] at c0
      have hget := Lib.hid (List.getElem?_eq_getElem hlt)
      obtain ⟨x, hx⟩ : ∃ x, x = l[k] := ⟨_, rfl⟩
      rw [← hx] at hget hv'
      have HV := Lib.hid (hv'.stays bndAt_stays hbr)
      obtain ⟨A', c', rfl, -⟩ := hv'
      obtain ⟨es, hes⟩ : ∃ e, matErr x = e := ⟨_, rfl⟩
      have HES := Lib.hid hes
      have HBR := Lib.hid hbr
      clear hx hes
      go_wp2_with fail
      refine (rmcheck_any x _ wr HV.out).mono ?_
      rw [HES.out]
      rintro e w4 ⟨rfl, hb4⟩
      have HB4 := Lib.hid (bel_tr HBR.out hb4)
      clear hb4 hbr
      by_cases h0 : es = 0
      · subst h0
        go_wp2_with fail
        go_roundw
        case rel => exact ⟨k + 1, by omega, by go_num, Lib.hid ⟨scan_go hget.out hI.out.1 HES.out, HB4.out⟩⟩
        case measure => simp [intOf]; omega
      · have h0' : (es != 0) = true := by simpa using h0
        have HX : Hid (R = ([], es)) := Lib.hid (by
          have h5 : matsErr l = es := (scan_stop hget.out hI.out.1 HES.out h0).symm
          rw [← HR.out, sortR, h5, if_pos h0])
        clear h0
        go_wp2_with fail
        go_ret2
        rw [HX.out]
        exact ⟨_, rfl, Sl.nil _ _ _ _ _ (Nat.zero_le _), HB4.out⟩
    · have hk' : ¬ (k : Int) < (l.length : Int) := by omega
      have HE0 : Hid (matsErr l = 0) := Lib.hid (scan_end (by omega) hI.out.1).symm
      have HBR := Lib.hid hbr
      clear hI hbr
      go_wp2_with fail
      refine (rsorted_any l _ wr (HA.out.stays matAt_stays HBR.out) hlen).mono ?_
      rintro e w3 ⟨v3, rfl, hv3, hb3⟩
      have HV3 := Lib.hid hv3
      have HB3 := Lib.hid (bel_tr HBR.out hb3)
      have hfl := foldM_len l
      have hs : (sortM l).length ≤ l.length := hfl
      obtain ⟨A3, c3, rfl⟩ := sl_form hv3
      have h4096 : ¬ (4096 : Int) < ((sortM l).length : Int) := by omega
      have HX : Hid (R = (sortM l, 0)) := Lib.hid (by rw [← HR.out, sortR, HE0.out, if_neg (by simp), if_neg (by omega)])
      clear hv3 hb3 hfl
      go_wp2_with fail
      go_ret2
      rw [HX.out]
      exact ⟨_, rfl, HV3.out, HB3.out⟩
end
end Go.Proofs.YtclpglgigpjfoaaGreatDoor
