/- The law MatchSets: sorting depends on the set of matches alone; its result ascends strictly, and has the same matches. No condition beyond the row's own. -/
import Derived.Test.YtclpglgigpjfoaaGreatDoorTie
import Derived.Test.YtclpglgigpjfoaaGreatDoorCards
import Derived.Test.YtclpglgigpjfoaaGreatDoorMread
import Derived.Test.YtclpglgigpjfoaaGreatDoorMawake
import Derived.Test.YtclpglgigpjfoaaGreatDoorMfew
import Derived.Test.YtclpglgigpjfoaaGreatDoorMplain
import Derived.Test.YtclpglgigpjfoaaGreatDoorMcont
import Derived.Test.YtclpglgigpjfoaaGreatDoorMrev
namespace Go.Proofs.YtclpglgigpjfoaaGreatDoor
open Go.ChangeShapes Go.WideShapes Go.ChangeAt Go.RowKit Go.Deep

theorem ne_box {W W' : World} {B t e sz n : Nat} {v v1 : Value} {xs : List Value} (y : Boxed W B t v) (h : W'.ownsRow W.heap.size e sz v1 n xs) : some B ≠ v1.ownBlock := fun e => by
  have h1 := (ownsRow_lt h e.symm).1
  have := Boxed.lt y
  omega
theorem ne_new {W : World} {base e sz n : Nat} {v1 : Value} {xs : List Value} (h : W.ownsRow base e sz v1 n xs) : some W.heap.size ≠ v1.ownBlock := fun e => by
  have := (ownsRow_lt h e.symm).2
  omega
/-- what region 4 leaves: a row of its own -/
def R4s (w : World) (n : Nat) (cs : List Value) (a a' : Act) (w' : World) : Prop := ∃ (u28 u29 u30 u31 u32 u33 u34 u35 u36 u37 u38 u39 u40 v6 : Value), a' = (((((((((((((((a.put (some 28) u28).put (some 29) u29).put (some 30) u30).put (some 31) u31).put (some 32) u32).put (some 33) u33).put (some 34) u34).put (some 35) u35).put (some 36) u36).put (some 37) u37).put (some 38) u38).put (some 39) u39).put (some 40) u40).put (some 41) v6).put (some 6) v6) ∧ Hid (w'.ownsRow w.heap.size 24 1 v6 n cs ∧ Below w.heap.size w w')
theorem src_of {w : World} {b o : Nat} {cs : List Value} (h : Cells w b o cs) (h1 : ∀ u ∈ cs, u.oneCell' = true) : Src w (some ⟨b, o, none⟩) cs.length 1 cs := ⟨by omega, h1, fun _ => ⟨b, o, rfl, h⟩⟩
theorem cells_drop {w : World} {b o k : Nat} {cs : List Value} (h : Cells w b o cs) : Cells w b (o + k) (cs.drop k) := fun j u hj => by
  rw [List.getElem?_drop] at hj
  have := h (k + j) u hj
  rwa [← Nat.add_assoc] at this
theorem cells_take {w : World} {b o k : Nat} {cs : List Value} (h : Cells w b o cs) : Cells w b o (cs.take k) := fun j u hj => by
  rw [List.getElem?_take] at hj
  split at hj
  · exact h j u hj
  · cases hj

theorem mcmpB (a b : List Bnd) (u v : Value) (w : World) (h1 : IsBnds w u a) (h2 : IsBnds w v b) : Calls Tryz.prog 16 #[matV u, matV v] w fun e w' => e = .returned (.int .i64 (bsC a b)) ∧ Below w.heap.size w w' :=
  (mcompare_any a b u v w h1 h2).mono fun _ _ h => ⟨h.1, h.2.below⟩
set_option maxRecDepth 100000 in
/-- Compare(m, a[i]) == 0 -/
theorem sets1_any (m x : List Bnd) (u ux : Value) (p q b o n c i : Nat) (w : World) (hm : IsBnds w u m) (hx : IsBnds w ux x) (h7 : w.cell? ⟨p, 0, none⟩ = some (.slice (some ⟨b, o, none⟩) n c)) (h11 : w.cell? ⟨q, 0, none⟩ = some (.int .i64 (i : Int))) (hi : i < n) (he : w.cell? ⟨b, o + i, none⟩ = some ux) :
    Calls Tryz.prog 32 #[matV u, .pointer (some ⟨p, 0, none⟩), .pointer (some ⟨q, 0, none⟩)] w fun e w' => e = .returned (.bool (decide (bsC m x = 0))) ∧ Below w.heap.size w w' := by
  have HC := Lib.hid (fun W (hb : Below w.heap.size w W) => mcmpB m x u ux W (hm.stays bndAt_stays hb) (hx.stays bndAt_stays hb))
  obtain ⟨A, c1, rfl, -⟩ := hm
  obtain ⟨B, c2, rfl, -⟩ := hx
  unfold matV at HC ⊢
  obtain ⟨r, hr⟩ : ∃ r, bsC m x = r := ⟨_, rfl⟩
  rw [hr] at HC ⊢
  clear hr
  have hi' : (i : Int) < (n : Int) := by omega
  go_enter Tryz.func32, Tryz.ntmps32
  go_wp2_with fail
  refine wp_region_F (fun W => W.cell? ⟨w.heap.size, 0, none⟩ = some (.slice A m.length c1) ∧ W.cell? ⟨p, 0, none⟩ = some (.slice (some ⟨b, o, none⟩) n c) ∧ W.cell? ⟨q, 0, none⟩ = some (.int .i64 (i : Int)) ∧ W.cell? ⟨b, o + i, none⟩ = some (.slice B x.length c2)) (by repeat (first | exact grows_cell _ _ _ | exact grows_true | refine grows_and ?_ ?_)) (by kernel_rfl) (by kernel_rfl) ?hF ?_; (case hF => (first | exact ⟨‹_›, ‹_›⟩ | (go_simp; done) | (simp [*]; done) | (repeat' (first | (refine And.intro ?_ ?_) | (go_simp; done) | exact cell_stays (bel_al (Below.refl _ _) _) (by assumption) | assumption)))); intro hne hxx; have hG : Hid (Grows (fun W => W.cell? ⟨w.heap.size, 0, none⟩ = some (.slice A m.length c1) ∧ W.cell? ⟨p, 0, none⟩ = some (.slice (some ⟨b, o, none⟩) n c) ∧ W.cell? ⟨q, 0, none⟩ = some (.int .i64 (i : Int)) ∧ W.cell? ⟨b, o + i, none⟩ = some (.slice B x.length c2))) := (by repeat (first | exact grows_cell _ _ _ | exact grows_true | refine grows_and ?_ ?_)); (repeat (go_big_quiet_step ((go_at_call 16; exact cls_callB hG (fun W hW => HC.out W (bel_tr (bel_one w _) hW)))))); clear hG hxx hne; refine wpQuiet_nil ?_; rintro wq ⟨⟨w', hb', hF'⟩, rfl⟩
  clear hF'
  go_wp2_with fail
  go_ret
  exact ⟨rfl, bel_tr (bel_one w _) hb'⟩
set_option maxRecDepth 100000 in
/-- Compare(m, x) == 0 -/
theorem sets2_any (m x : List Bnd) (u ux : Value) (p : Nat) (w : World) (hm : IsBnds w u m) (hx : IsBnds w ux x) (hp : w.cell? ⟨p, 0, none⟩ = some u) :
    Calls Tryz.prog 33 #[matV ux, .pointer (some ⟨p, 0, none⟩)] w fun e w' => e = .returned (.bool (decide (bsC m x = 0))) ∧ Below w.heap.size w w' := by
  have HC := Lib.hid (fun W (hb : Below w.heap.size w W) => mcmpB m x u ux W (hm.stays bndAt_stays hb) (hx.stays bndAt_stays hb))
  obtain ⟨A, c1, rfl, -⟩ := hm
  obtain ⟨B, c2, rfl, -⟩ := hx
  unfold matV at HC ⊢
  obtain ⟨r, hr⟩ : ∃ r, bsC m x = r := ⟨_, rfl⟩
  rw [hr] at HC ⊢
  clear hr
  have hpl : p < w.heap.size := World.block_lt_of_cell? w ⟨p, _, none⟩ hp
  have hnp : p ≠ w.heap.size := by omega
  have hnp' : w.heap.size ≠ p := by omega
  go_enter Tryz.func33, Tryz.ntmps33
  go_wp2_with (go_at_call 16; refine calls_gen fun W9 e9 => ?_; have hb9 : Below w.heap.size w W9 := (by rw [e9]; exact (by repeat (first | exact Below.refl _ _ | assumption | refine Below.drew ?_ | refine bel_al ?_ _ | refine bel_set ?_ (by omega) _ | refine bel_tr ?_ (by assumption)))); clear e9; refine (HC.out _ hb9).mono ?_; rintro e w1 ⟨rfl, hgr⟩; have HB1 := Lib.hid (bel_tr hb9 hgr); clear hb9 hgr)
  go_ret
  exact ⟨rfl, HB1.out⟩
theorem u8_of_wf {n : Int} (h : (Lit.int .u8 n).wf = true) : 0 ≤ n ∧ n ≤ 255 := by
  have hmin : IntKind.u8.min = 0 := by rfl
  have hmax : IntKind.u8.max = 255 := by rfl
  simp only [Lit.wf, Bool.and_eq_true, decide_eq_true_eq, hmin, hmax] at h
  exact h
set_option maxHeartbeats 1000000 in
theorem sortR_ok {l S : List (List Bnd)} (h : sortR l = (S, 0)) : S = sortM l := by
  unfold sortR at h
  split at h
  · rename_i h0; injection h with _ h2; exact absurd h2 h0
  · split at h
    · injection h with _ h2; exact absurd h2 (by decide)
    · injection h with h1 _; exact h1.symm
theorem any_same {l : List (List Bnd)} {x : List Bnd} (h : x ∈ l) : (l.any fun m => decide (bsC m x = 0)) = true := List.any_eq_true.2 ⟨x, h, by simp [bsC_eq.2 rfl]⟩
theorem any_same2 {l : List (List Bnd)} {x : List Bnd} (h : x ∈ l) : (l.any fun m => decide (bsC x m = 0)) = true := List.any_eq_true.2 ⟨x, h, by simp [bsC_eq.2 rfl]⟩

set_option maxRecDepth 100000 in
set_option maxHeartbeats 8000000 in
theorem sets_walk (l : List (List Bnd)) (v : Value) (by_ : Int) (w : World) (hl : IsMats w v l) (hby : 0 ≤ by_ ∧ by_ ≤ 255) (hx : Lx w) :
    Calls Tryz.prog 7 #[v, .int .u8 by_] w fun e w' => e = .returned (.bool true) ∧ Below w.heap.size w w' := by
  have HL := Lib.hid hl
  have HX := Lib.hid hx
  obtain ⟨A, ca, rfl, hca, hcm, -⟩ := hl
  have hn := len_i64 hca hcm
  clear hx
  obtain ⟨t, ht⟩ : ∃ t, fewM l = t := ⟨_, rfl⟩
  have HS := Lib.hid ht
  clear ht
  go_enter Tryz.func7, Tryz.ntmps7
  go_wp2_with fail
  refine (few17_any l _ w HL.out).mono ?_
  rw [HS.out]
  rintro e w2 ⟨rfl, rfl⟩
  cases t with
  | false =>
    go_wp2_with fail
    refine (awake_any _ HX.out).mono ?_
    rintro e w3 ⟨rfl, hb3⟩
    go_wp2_with fail
    go_ret
    exact ⟨rfl, hb3⟩
  | true =>
  have hlen := (fewM_parts HS.out).1
  by_cases h0 : l.length = 0
  · have h0' : ((l.length : Nat) : Int) = 0 := by omega
    go_wp2_with fail
    refine (awake_any _ HX.out).mono ?_
    rintro e w3 ⟨rfl, hb3⟩
    go_wp2_with fail
    go_ret
    exact ⟨rfl, hb3⟩
  have h0' : (((l.length : Nat) : Int) == 0) = false := by simpa using h0
  obtain ⟨k, hk⟩ : ∃ k : Nat, Int.tmod by_ (l.length : Int) = (k : Int) := ⟨(Int.tmod by_ (l.length : Int)).toNat, by
    have := Int.tmod_nonneg (l.length : Int) hby.1
    omega⟩
  have hkl : k < l.length := by
    have h1 := Int.tmod_lt_of_pos by_ (b := (l.length : Int)) (by omega)
    omega
  have hal := HL.out
  obtain ⟨A0, ca0, he0, _, _, hat0⟩ := hal
  injection he0 with e1 _ e3
  subst e1 e3
  have HAL := Lib.hid hat0
  clear hat0
  obtain ⟨ms, hms, hmb, hcells⟩ := mats_cells HL.out
  obtain ⟨b, o, rfl, hcl⟩ := hcells (by omega)
  have hml : ms.length = l.length := by rw [← hms, List.length_map]
  obtain ⟨⟨bx, ux⟩, hex⟩ : ∃ ex, ms[k]? = some ex := ⟨_, List.getElem?_eq_getElem (by omega)⟩
  have c0 : w.cell? ⟨b, o + k, none⟩ = some ux := hcl k ux (by rw [List.getElem?_map, hex]; rfl)
  have hone : ∀ u ∈ ms.map (·.2), u.oneCell' = true := fun u hu => by
    obtain ⟨e, he, rfl⟩ := List.mem_map.1 hu
    exact sl_oneCell (hmb e he)
  have hux := hmb _ (List.mem_of_getElem? hex)
  have hgetl : l[k]? = some bx := by rw [← hms, List.getElem?_map, hex]; rfl
  obtain ⟨csD, hcsD⟩ : ∃ csD, (ms.map (·.2)).drop k = csD := ⟨_, rfl⟩
  obtain ⟨csT, hcsT⟩ : ∃ csT, (ms.map (·.2)).take k = csT := ⟨_, rfl⟩
  have HSD : Hid (Src w (some ⟨b, o + k, none⟩) (l.length - k) 1 csD) := Lib.hid ⟨by rw [← hcsD, List.length_drop, List.length_map]; omega, fun u hu => hone u (by rw [← hcsD] at hu; exact List.mem_of_mem_drop hu), fun _ => ⟨b, o + k, rfl, by rw [← hcsD]; exact cells_drop hcl⟩⟩
  have HST : Hid (Src w (some ⟨b, o, none⟩) k 1 csT) := Lib.hid ⟨by rw [← hcsT, List.length_take, List.length_map]; omega, fun u hu => hone u (by rw [← hcsT] at hu; exact List.mem_of_mem_take hu), fun _ => ⟨b, o, rfl, by rw [← hcsT]; exact cells_take hcl⟩⟩
  obtain ⟨i0, hi, hz0, hz1, hz2⟩ := info_parts info_mat
  simp only at hux
  obtain ⟨Au, cu, hu⟩ := sl_form hux
  subst hu
  have hux1 : ∀ u ∈ [Value.slice Au bx.length cu], u.oneCell' = true := fun u hu => by simp at hu; subst hu; rfl
  -- the turned list
  obtain ⟨ts, hts⟩ : ∃ ts : List MV, ts = ms.drop k ++ ms.take k ++ [(bx, .slice Au bx.length cu)] := ⟨_, rfl⟩
  have hts1 : Hid (ts.map (·.2) = csD ++ csT ++ [.slice Au bx.length cu]) := Lib.hid (by rw [hts, ← hcsD, ← hcsT, List.map_append, List.map_append, List.map_drop, List.map_take]; rfl)
  have hts2 : Hid (ts.map (·.1) = l.drop k ++ l.take k ++ [bx]) := Lib.hid (by rw [hts, ← hms, List.map_append, List.map_append, List.map_drop, List.map_take]; rfl)
  have hts3 : Hid (∀ e ∈ ts, IsBnds w e.2 e.1) := Lib.hid (fun e he => by
    rw [hts] at he
    rcases List.mem_append.1 he with he | he
    · rcases List.mem_append.1 he with he | he
      · exact hmb e (List.mem_of_mem_drop he)
      · exact hmb e (List.mem_of_mem_take he)
    · simp at he; subst he; exact hux)
  have htl : ts.length = l.length - k + k + 1 := by rw [hts]; simp; omega
  have HTL := Lib.hid htl
  have HGET := Lib.hid hgetl
  have hki : (k : Int) ≤ (l.length : Int) := by omega
  have hki' : (k : Int) < (l.length : Int) := by omega
  have hkc : (k : Int) ≤ (ca : Int) := by omega
  have hcak : ¬ ca = k := by omega
  obtain ⟨XS, hXS⟩ : ∃ XS, csD ++ csT ++ [Value.slice Au bx.length cu] = XS := ⟨_, rfl⟩
  have HXS := Lib.hid hXS
  rw [hXS] at hts1
  obtain ⟨NX, hNX⟩ : ∃ NX, l.length - k + k + 1 = NX := ⟨_, rfl⟩
  have HNX := Lib.hid hNX
  rw [hNX] at HTL
  clear hXS hNX hcsD hcsT hts htl hone hgetl hex hmb hms hml hcells
  go_wp2_with fail
  refine wp_join (R4s w NX XS) ?_ ?_
  · -- REGION4
    refine wp_region_noPanic ?_
    refine wp_region_held_drew (S := fun W => Below w.heap.size w W ∧ W.cell? ⟨b, o + k, none⟩ = some (.slice Au bx.length cu)) (by kernel_rfl) (⟨(by repeat (first | exact Below.refl _ _ | assumption | refine Below.drew ?_ | refine bel_al ?_ _ | refine bel_set ?_ (by omega) _ | refine bel_tr ?_ (by assumption))), c0⟩) (fun hHeld => ?_)
    generalize w.drew = wD at hHeld ⊢
    focus (refine wpAnyH_take (i := 0) (v := ?_) rfl (by kernel_rfl) (by kernel_rfl) (by kernel_rfl) (fun _ _ _ h => h) (Or.inl ⟨by rfl, ?_⟩) (by assumption) ?_; rotate_left 1; (focus (intro wS hSw; (try dsimp only at hSw); go_simp <;> with_reducible rfl)); try simp only [Act.put, List.setIfInBounds_toArray, List.set_cons_zero, List.set_cons_succ])
    focus (refine wpAnyH_take (i := 1) (v := ?_) rfl (by kernel_rfl) (by kernel_rfl) (by kernel_rfl) (fun _ _ _ h => h) (Or.inl ⟨by rfl, ?_⟩) (by assumption) ?_; rotate_left 1; (focus (intro wS hSw; (try dsimp only at hSw); go_simp <;> with_reducible rfl)); try simp only [Act.put, List.setIfInBounds_toArray, List.set_cons_zero, List.set_cons_succ])
    focus (refine wpAnyH_take (i := 2) (v := ?_) rfl (by kernel_rfl) (by kernel_rfl) (by kernel_rfl) (fun _ _ _ h => h) (Or.inl ⟨by rfl, ?_⟩) (by assumption) ?_; rotate_left 1; (focus (intro wS hSw; (try dsimp only at hSw); go_simp <;> with_reducible rfl)); try simp only [Act.put, List.setIfInBounds_toArray, List.set_cons_zero, List.set_cons_succ])
    focus (refine wpAnyH_take (i := 4) (v := ?_) rfl (by kernel_rfl) (by kernel_rfl) (by kernel_rfl) (fun _ _ _ h => h) (Or.inl ⟨by rfl, ?_⟩) (by assumption) ?_; rotate_left 1; (focus (intro wS hSw; (try dsimp only at hSw); go_simp <;> with_reducible rfl)); try simp only [Act.put, List.setIfInBounds_toArray, List.set_cons_zero, List.set_cons_succ])
    focus (refine wpAnyH_take (i := 5) (v := ?_) rfl (by kernel_rfl) (by kernel_rfl) (by kernel_rfl) (fun _ _ _ h => h) (Or.inl ⟨by rfl, ?_⟩) (by assumption) ?_; rotate_left 1; (focus (intro wS hSw; (try dsimp only at hSw); go_simp <;> with_reducible rfl)); try simp only [Act.put, List.setIfInBounds_toArray, List.set_cons_zero, List.set_cons_succ])
    focus (refine wpAnyH_take (i := 6) (v := ?_) rfl (by kernel_rfl) (by kernel_rfl) (by kernel_rfl) (fun _ _ _ h => h) (Or.inl ⟨by rfl, ?_⟩) (by assumption) ?_; rotate_left 1; (focus (intro wS hSw; (try dsimp only at hSw); go_simp <;> with_reducible rfl)); try simp only [Act.put, List.setIfInBounds_toArray, List.set_cons_zero, List.set_cons_succ])
    focus (refine wpAnyH_take (i := 8) (v := ?_) rfl (by kernel_rfl) (by kernel_rfl) (by kernel_rfl) (fun _ _ _ h => h) (Or.inl ⟨by rfl, ?_⟩) (by assumption) ?_; rotate_left 1; (focus (intro wS hSw; (try dsimp only at hSw); go_simp <;> with_reducible rfl)); try simp only [Act.put, List.setIfInBounds_toArray, List.set_cons_zero, List.set_cons_succ])
    focus (refine wpAnyH_take (i := 9) (v := ?_) rfl (by kernel_rfl) (by kernel_rfl) (by kernel_rfl) (fun _ _ _ h => h) (Or.inl ⟨by rfl, ?_⟩) (by assumption) ?_; rotate_left 1; (focus (intro wS hSw; (try dsimp only at hSw); go_simp <;> with_reducible rfl)); try simp only [Act.put, List.setIfInBounds_toArray, List.set_cons_zero, List.set_cons_succ])
    focus (refine wpAnyH_take (i := 10) (v := ?_) rfl (by kernel_rfl) (by kernel_rfl) (by kernel_rfl) (fun _ _ _ h => h) (Or.inl ⟨by rfl, ?_⟩) (by assumption) ?_; rotate_left 1; (focus (intro wS hSw; (try dsimp only at hSw); go_simp <;> with_reducible rfl)); try simp only [Act.put, List.setIfInBounds_toArray, List.set_cons_zero, List.set_cons_succ])
    focus (refine wpAnyH_take (i := 11) (v := ?_) rfl (by kernel_rfl) (by kernel_rfl) (by kernel_rfl) (fun _ _ _ h => h) (Or.inl ⟨by rfl, ?_⟩) (by assumption) ?_; rotate_left 1; (focus (intro wS hSw; (try dsimp only at hSw); go_simp <;> with_reducible rfl)); try simp only [Act.put, List.setIfInBounds_toArray, List.set_cons_zero, List.set_cons_succ])
    refine wpAnyH_ready (rs := [3, 12]) (by kernel_rfl) (by simp) ?_
    refine AllReadyH.cons rfl (fun K hK => ?_) ?_
    focus (go_simp; go_at_call 29; refine (cloneMats (some ⟨b, o + k, none⟩) (l.length - k) (ca - k) csD _ (HSD.out.stays hHeld.1) (by omega)).mono ?_; rintro e w5 ⟨v1, rfl, hown1, hb5⟩; have hb05 := hHeld.1.size; (try (have NE := Lib.hid (ne_box y.out hown1); have y2 := Lib.hid (box_bel y.out hb5); clear y; have y := y2; clear y2)); have R := Lib.hid (ownsRow_more hown1 hb05); clear hown1; obtain ⟨A1, c1, rfl⟩ := slice_own R.out)
    refine hK.out _ _ (⟨bel_tr hHeld.1 hb5, cell_stays hb5 hHeld.2⟩) (fun hHeld => ?_)
    clear hK K
    try simp only [Act.put, List.setIfInBounds_toArray, List.set_cons_zero, List.set_cons_succ]
    refine wpAnyH_ready (rs := [7, 12]) (by kernel_rfl) (by simp) ?_
    refine AllReadyH.cons rfl (fun K hK => ?_) ?_
    focus ((try (change Oper.wp _ _ _ _ _ _)); refine at_app _ (.tmp 31) (.tmp 34) 26 rfl w.heap.size 24 i0 _ 1 24 Tryz.underlying26 hi hz0 hz1 hz2 rfl (by decide) (.slice A1 (l.length - k) c1) (l.length - k) csD (by rfl) R.out (some ⟨b, o, none⟩) k ca csT (by rfl) (HST.out.stays hHeld.1) (by unfold maxLen; omega) (by omega) hHeld.1.size ?_; intro v2 w7 hown7 hg7 hloc7; have hb7 : Below w.heap.size w w7 := hHeld.1.trans (grown_below hg7 hHeld.1.size (fun g h => (ownsRow_lt R.out h).1)); (try (have y2 := Lib.hid (y.out.kept hg7 NE.out); clear y NE; have y := y2; clear y2)); clear hg7 hloc7 R; have R := Lib.hid hown7; clear hown7; obtain ⟨A2, c2, rfl⟩ := slice_own R.out)
    refine hK.out _ _ (⟨hb7, cell_stays hb7 c0⟩) (fun hHeld => ?_)
    clear hK K
    try simp only [Act.put, List.setIfInBounds_toArray, List.set_cons_zero, List.set_cons_succ]
    refine wpAnyH_ready (rs := [12]) (by kernel_rfl) (by simp) ?_
    refine AllReadyH.cons rfl (fun K hK => ?_) ?_
    focus (go_simp; refine al_gen (K := fun W => K _ W) fun w6 hb6 hy6 => ?_; have y := Lib.hid hy6; clear hy6; (try (have NE := Lib.hid (ne_new R.out); have R2 := Lib.hid (ownsRow_below R.out hb6); clear R; have R := R2; clear R2)))
    refine hK.out _ _ (⟨bel_tr hHeld.1 hb6, cell_stays hb6 hHeld.2⟩) (fun hHeld => ?_)
    clear hK K
    try simp only [Act.put, List.setIfInBounds_toArray, List.set_cons_zero, List.set_cons_succ]
    refine wpAnyH_ready (rs := [13]) (by kernel_rfl) (by simp) ?_
    refine AllReadyH.cons rfl (fun K hK => ?_) ?_
    focus ((try (change Oper.wp _ _ _ _ _ _)); refine at_app _ (.tmp 35) (.tmp 40) 26 rfl w.heap.size 24 i0 _ 1 24 Tryz.underlying26 hi hz0 hz1 hz2 rfl (by decide) (.slice A2 (l.length - k + k) c2) (l.length - k + k) (csD ++ csT) (by rfl) R.out _ 1 1 [.slice Au bx.length cu] (by rfl) (src_blk (n := 1) (sz := 1) (cs := [.slice Au bx.length cu]) y.out rfl hux1) (by unfold maxLen; omega) (by omega) hHeld.1.size ?_; intro v3 w8 hown8 hg8 hloc8; have hb8 : Below w.heap.size w w8 := hHeld.1.trans (grown_below hg8 hHeld.1.size (fun g h => (ownsRow_lt R.out h).1)); clear hg8 hloc8 R; have R := Lib.hid hown8; clear hown8)
    refine hK.out _ _ (⟨hb8, cell_stays hb8 c0⟩) (fun hHeld => ?_)
    clear hK K
    try simp only [Act.put, List.setIfInBounds_toArray, List.set_cons_zero, List.set_cons_succ]
    focus (refine wpAnyH_take (i := 14) (v := ?_) rfl (by kernel_rfl) (by kernel_rfl) (by kernel_rfl) (fun _ _ _ h => h) (Or.inl ⟨by rfl, ?_⟩) (by assumption) ?_; rotate_left 1; (focus (intro wS hSw; (try dsimp only at hSw); go_simp <;> with_reducible rfl)); try simp only [Act.put, List.setIfInBounds_toArray, List.set_cons_zero, List.set_cons_succ])
    refine wpAnyH_done (by kernel_rfl) (NoPanic.normal ?_) _
    rotate_left 1
    exact AllReadyH.nil
    exact AllReadyH.nil
    refine AllReadyH.cons rfl (fun K hK => ?_) ?_
    focus (go_simp; refine al_gen (K := fun W => K _ W) fun w6 hb6 hy6 => ?_; have y := Lib.hid hy6; clear hy6; (try (have NE := Lib.hid (ne_new R.out); have R2 := Lib.hid (ownsRow_below R.out hb6); clear R; have R := R2; clear R2)))
    refine hK.out _ _ (⟨bel_tr hHeld.1 hb6, cell_stays hb6 hHeld.2⟩) (fun hHeld => ?_)
    clear hK K
    try simp only [Act.put, List.setIfInBounds_toArray, List.set_cons_zero, List.set_cons_succ]
    refine wpAnyH_ready (rs := [7]) (by kernel_rfl) (by simp) ?_
    refine AllReadyH.cons rfl (fun K hK => ?_) ?_
    focus ((try (change Oper.wp _ _ _ _ _ _)); refine at_app _ (.tmp 31) (.tmp 34) 26 rfl w.heap.size 24 i0 _ 1 24 Tryz.underlying26 hi hz0 hz1 hz2 rfl (by decide) (.slice A1 (l.length - k) c1) (l.length - k) csD (by rfl) R.out (some ⟨b, o, none⟩) k ca csT (by rfl) (HST.out.stays hHeld.1) (by unfold maxLen; omega) (by omega) hHeld.1.size ?_; intro v2 w7 hown7 hg7 hloc7; have hb7 : Below w.heap.size w w7 := hHeld.1.trans (grown_below hg7 hHeld.1.size (fun g h => (ownsRow_lt R.out h).1)); (try (have y2 := Lib.hid (y.out.kept hg7 NE.out); clear y NE; have y := y2; clear y2)); clear hg7 hloc7 R; have R := Lib.hid hown7; clear hown7; obtain ⟨A2, c2, rfl⟩ := slice_own R.out)
    refine hK.out _ _ (⟨hb7, cell_stays hb7 c0⟩) (fun hHeld => ?_)
    clear hK K
    try simp only [Act.put, List.setIfInBounds_toArray, List.set_cons_zero, List.set_cons_succ]
    refine wpAnyH_ready (rs := [13]) (by kernel_rfl) (by simp) ?_
    refine AllReadyH.cons rfl (fun K hK => ?_) ?_
    focus ((try (change Oper.wp _ _ _ _ _ _)); refine at_app _ (.tmp 35) (.tmp 40) 26 rfl w.heap.size 24 i0 _ 1 24 Tryz.underlying26 hi hz0 hz1 hz2 rfl (by decide) (.slice A2 (l.length - k + k) c2) (l.length - k + k) (csD ++ csT) (by rfl) R.out _ 1 1 [.slice Au bx.length cu] (by rfl) (src_blk (n := 1) (sz := 1) (cs := [.slice Au bx.length cu]) y.out rfl hux1) (by unfold maxLen; omega) (by omega) hHeld.1.size ?_; intro v3 w8 hown8 hg8 hloc8; have hb8 : Below w.heap.size w w8 := hHeld.1.trans (grown_below hg8 hHeld.1.size (fun g h => (ownsRow_lt R.out h).1)); clear hg8 hloc8 R; have R := Lib.hid hown8; clear hown8)
    refine hK.out _ _ (⟨hb8, cell_stays hb8 c0⟩) (fun hHeld => ?_)
    clear hK K
    try simp only [Act.put, List.setIfInBounds_toArray, List.set_cons_zero, List.set_cons_succ]
    focus (refine wpAnyH_take (i := 14) (v := ?_) rfl (by kernel_rfl) (by kernel_rfl) (by kernel_rfl) (fun _ _ _ h => h) (Or.inl ⟨by rfl, ?_⟩) (by assumption) ?_; rotate_left 1; (focus (intro wS hSw; (try dsimp only at hSw); go_simp <;> with_reducible rfl)); try simp only [Act.put, List.setIfInBounds_toArray, List.set_cons_zero, List.set_cons_succ])
    refine wpAnyH_done (by kernel_rfl) (NoPanic.normal ?_) _
    rotate_left 1
    exact AllReadyH.nil
    exact AllReadyH.nil
    exact AllReadyH.nil
    refine AllReadyH.cons rfl (fun K hK => ?_) ?_
    focus (go_simp; refine al_gen (K := fun W => K _ W) fun w6 hb6 hy6 => ?_; have y := Lib.hid hy6; clear hy6; (try (have NE := Lib.hid (ne_new R.out); have R2 := Lib.hid (ownsRow_below R.out hb6); clear R; have R := R2; clear R2)))
    refine hK.out _ _ (⟨bel_tr hHeld.1 hb6, cell_stays hb6 hHeld.2⟩) (fun hHeld => ?_)
    clear hK K
    try simp only [Act.put, List.setIfInBounds_toArray, List.set_cons_zero, List.set_cons_succ]
    refine wpAnyH_ready (rs := [3]) (by kernel_rfl) (by simp) ?_
    refine AllReadyH.cons rfl (fun K hK => ?_) ?_
    focus (go_simp; go_at_call 29; refine (cloneMats (some ⟨b, o + k, none⟩) (l.length - k) (ca - k) csD _ (HSD.out.stays hHeld.1) (by omega)).mono ?_; rintro e w5 ⟨v1, rfl, hown1, hb5⟩; have hb05 := hHeld.1.size; (try (have NE := Lib.hid (ne_box y.out hown1); have y2 := Lib.hid (box_bel y.out hb5); clear y; have y := y2; clear y2)); have R := Lib.hid (ownsRow_more hown1 hb05); clear hown1; obtain ⟨A1, c1, rfl⟩ := slice_own R.out)
    refine hK.out _ _ (⟨bel_tr hHeld.1 hb5, cell_stays hb5 hHeld.2⟩) (fun hHeld => ?_)
    clear hK K
    try simp only [Act.put, List.setIfInBounds_toArray, List.set_cons_zero, List.set_cons_succ]
    refine wpAnyH_ready (rs := [7]) (by kernel_rfl) (by simp) ?_
    refine AllReadyH.cons rfl (fun K hK => ?_) ?_
    focus ((try (change Oper.wp _ _ _ _ _ _)); refine at_app _ (.tmp 31) (.tmp 34) 26 rfl w.heap.size 24 i0 _ 1 24 Tryz.underlying26 hi hz0 hz1 hz2 rfl (by decide) (.slice A1 (l.length - k) c1) (l.length - k) csD (by rfl) R.out (some ⟨b, o, none⟩) k ca csT (by rfl) (HST.out.stays hHeld.1) (by unfold maxLen; omega) (by omega) hHeld.1.size ?_; intro v2 w7 hown7 hg7 hloc7; have hb7 : Below w.heap.size w w7 := hHeld.1.trans (grown_below hg7 hHeld.1.size (fun g h => (ownsRow_lt R.out h).1)); (try (have y2 := Lib.hid (y.out.kept hg7 NE.out); clear y NE; have y := y2; clear y2)); clear hg7 hloc7 R; have R := Lib.hid hown7; clear hown7; obtain ⟨A2, c2, rfl⟩ := slice_own R.out)
    refine hK.out _ _ (⟨hb7, cell_stays hb7 c0⟩) (fun hHeld => ?_)
    clear hK K
    try simp only [Act.put, List.setIfInBounds_toArray, List.set_cons_zero, List.set_cons_succ]
    refine wpAnyH_ready (rs := [13]) (by kernel_rfl) (by simp) ?_
    refine AllReadyH.cons rfl (fun K hK => ?_) ?_
    focus ((try (change Oper.wp _ _ _ _ _ _)); refine at_app _ (.tmp 35) (.tmp 40) 26 rfl w.heap.size 24 i0 _ 1 24 Tryz.underlying26 hi hz0 hz1 hz2 rfl (by decide) (.slice A2 (l.length - k + k) c2) (l.length - k + k) (csD ++ csT) (by rfl) R.out _ 1 1 [.slice Au bx.length cu] (by rfl) (src_blk (n := 1) (sz := 1) (cs := [.slice Au bx.length cu]) y.out rfl hux1) (by unfold maxLen; omega) (by omega) hHeld.1.size ?_; intro v3 w8 hown8 hg8 hloc8; have hb8 : Below w.heap.size w w8 := hHeld.1.trans (grown_below hg8 hHeld.1.size (fun g h => (ownsRow_lt R.out h).1)); clear hg8 hloc8 R; have R := Lib.hid hown8; clear hown8)
    refine hK.out _ _ (⟨hb8, cell_stays hb8 c0⟩) (fun hHeld => ?_)
    clear hK K
    try simp only [Act.put, List.setIfInBounds_toArray, List.set_cons_zero, List.set_cons_succ]
    focus (refine wpAnyH_take (i := 14) (v := ?_) rfl (by kernel_rfl) (by kernel_rfl) (by kernel_rfl) (fun _ _ _ h => h) (Or.inl ⟨by rfl, ?_⟩) (by assumption) ?_; rotate_left 1; (focus (intro wS hSw; (try dsimp only at hSw); go_simp <;> with_reducible rfl)); try simp only [Act.put, List.setIfInBounds_toArray, List.set_cons_zero, List.set_cons_succ])
    refine wpAnyH_done (by kernel_rfl) (NoPanic.normal ?_) _
    rotate_left 1
    exact AllReadyH.nil
    exact AllReadyH.nil
    exact AllReadyH.nil
    exact AllReadyH.nil
    all_goals
      refine ⟨rfl, ?_⟩
      unfold R4s
      (repeat apply Exists.intro)
      refine ⟨?_, ?_⟩
      focus (simp only [Act.put, List.setIfInBounds_toArray, List.set_cons_zero, List.set_cons_succ, List.getElem_toArray, List.getElem_cons_succ, List.getElem_cons_zero]; rfl)
      rw [← HXS.out, ← HNX.out]
      exact Lib.hid ⟨R.out, hHeld.1⟩
  · unfold R4s
    rintro a' w4 ⟨u28, u29, u30, u31, u32, u33, u34, u35, u36, u37, u38, u39, u40, v6, rfl, HR⟩
    simp only [Act.put, List.setIfInBounds_toArray, List.set_cons_zero, List.set_cons_succ]
    have hrow := HR.out.1
    have HB4 := Lib.hid HR.out.2
    rw [← hts1.out, ← HTL.out] at hrow
    have HREV := Lib.hid (reverse_row ts v6 w.heap.size w4 (by rw [HTL.out, ← HNX.out]; omega) hrow (fun e he => by obtain ⟨A, c, h⟩ := sl_form (hts3.out e he); exact ⟨A, _, c, h⟩))
    have HBG : Hid (∀ g, v6.ownBlock = some g → w.heap.size ≤ g) := Lib.hid (fun g hg => (ownsRow_lt hrow hg).1)
    obtain ⟨A6, c6, rfl⟩ := slice_own hrow
    clear hrow HR c0
    go_wp2_with fail
    refine HREV.out.mono ?_
    rintro e w5 ⟨rfl, hown5, hg5⟩
    have hb5 : Below w.heap.size w w5 := HB4.out.trans (grown_below hg5 HB4.out.size (fun g h => HBG.out g h))
    have HB5 := Lib.hid hb5
    have HT5 : Hid (IsMats w5 (.slice A6 ts.length c6) (ts.reverse.map (·.1))) := Lib.hid (by
      have h1 : ts.length = ts.reverse.length := by simp
      have h2 : MW w.heap.size w5 (.slice A6 ts.length c6) ts.reverse → IsMats w5 (.slice A6 ts.length c6) (ts.reverse.map (·.1)) := fun h => h.is
      obtain ⟨A7, c7, hv7, h3, h4, h5⟩ := ownsRow_src hown5 (fun u hu => by
        obtain ⟨e, he, rfl⟩ := List.mem_map.1 hu
        exact sl_oneCell (hts3.out e (List.mem_reverse.1 he)))
      injection hv7 with e1 e2 e3
      subst e1 e3
      refine ⟨A6, c6, by rw [List.length_map, ← h1], by rw [List.length_map, ← h1]; exact h3, h4, fun j x hj => ?_⟩
      rw [List.getElem?_map] at hj
      obtain ⟨e, he, rfl⟩ := Option.map_eq_some_iff.1 hj
      have hjl := (List.getElem?_eq_some_iff.1 he).1
      obtain ⟨b', o', hA, hcs⟩ := h5.2.2 (by omega)
      exact ⟨b', o', hA, e.2, (hts3.out e (List.mem_reverse.1 (List.mem_of_getElem? he))).stays bndAt_stays hb5, by rw [Nat.mul_one]; exact hcs j e.2 (by rw [List.getElem?_map, he]; rfl)⟩)
    obtain ⟨tr, htr⟩ : ∃ tr, ts.reverse.map (·.1) = tr := ⟨_, rfl⟩
    have HMEM : Hid (∀ y, y ∈ l ↔ y ∈ tr) := Lib.hid (fun y => by
      rw [← htr, List.map_reverse, hts2.out]
      exact (turned_mem HGET.out y).symm)
    have HTRL : Hid (tr.length ≤ 100) := Lib.hid (by rw [← htr, List.length_map, List.length_reverse, HTL.out, ← HNX.out]; omega)
    rw [htr] at HT5
    clear hown5 hg5 hb5 HREV htr
    obtain ⟨⟨S, es⟩, hs⟩ : ∃ r, sortR l = r := ⟨_, rfl⟩
    obtain ⟨⟨T, et⟩, ht⟩ : ∃ r, sortR tr = r := ⟨_, rfl⟩
    have HSET := Lib.hid (sortR_set (l := l) (m := tr) HMEM.out)
    have HSR := Lib.hid hs
    have HTR := Lib.hid ht
    clear hs ht
    go_wp2_with fail
    refine (msort_any l _ w5 (HL.out.stays matAt_stays HB5.out) (by omega)).mono ?_
    rw [HSR.out]
    rintro e w6 ⟨v3, rfl, hv3, hb6⟩
    have H3 := Lib.hid hv3
    obtain ⟨A3, c3, rfl, -⟩ := hv3
    have HB6 := Lib.hid (bel_tr HB5.out hb6)
    have HT6 := Lib.hid (HT5.out.stays matAt_stays hb6)
    clear hb6
    go_wp2_with fail
    refine calls_gen fun W9 e9 => ?_
    have y7 : W9.cell? ⟨w6.heap.size, 0, none⟩ = some (.slice A3 S.length c3) := by rw [e9]; go_simp
    have hb9 : Below w6.heap.size w6 W9 := by rw [e9]; exact (by repeat (first | exact Below.refl _ _ | assumption | refine Below.drew ?_ | refine bel_al ?_ _ | refine bel_set ?_ (by omega) _ | refine bel_tr ?_ (by assumption)))
    clear e9
    refine (msort_any tr _ W9 (HT6.out.stays matAt_stays hb9) (by have := HTRL.out; omega)).mono ?_
    rw [HTR.out]
    rintro e w7 ⟨v4, rfl, hv4, hb7⟩
    have H4 := Lib.hid hv4
    obtain ⟨A4, c4, rfl, -⟩ := hv4
    replace y7 := cell_stays hb7 y7
    have hb97 := bel_tr hb9 hb7
    have H37 := Lib.hid (H3.out.stays matAt_stays hb97)
    have HB7 := Lib.hid (bel_tr HB6.out hb97)
    obtain ⟨X7, hX7⟩ : ∃ X7, X7 = w6.heap.size := ⟨_, rfl⟩
    rw [← hX7] at y7 ⊢
    have hset := HSET.out
    rw [HSR.out, HTR.out] at hset
    simp only at hset
    clear hb9 hb7 hb97 hX7
    by_cases hes : es = 0
    case neg =>
      have het := hset.1.1 hes
      have hes' : (es != 0) = true := by simpa using hes
      have het' : (et != 0) = true := by simpa using het
      clear hset hes het
      go_wp2_with fail
      refine (awake_any _ (HX.out.stays HB7.out)).mono ?_
      rintro e w8 ⟨rfl, hb8⟩
      go_wp2_with fail
      go_ret
      exact ⟨rfl, bel_tr HB7.out hb8⟩
    have het : et = 0 := by
      by_cases h : et = 0
      · exact h
      · exact absurd hes (hset.1.2 h)
    have hST := hset.2 hes het
    subst hes het hST
    clear hset
    have hS := sortR_ok HSR.out
    have HASC : Hid (S.Pairwise fun a b => bsC a b < 0) := Lib.hid (by rw [hS]; exact (sortM_ok l).1)
    have HSM : Hid (∀ x, x ∈ S ↔ x ∈ l) := Lib.hid (by rw [hS]; exact (sortM_ok l).2)
    clear hS
    obtain ⟨A3', c3', he3, hs1, hs2, hat3⟩ := H37.out
    injection he3 with e1 _ e3
    subst e1 e3
    have hns := len_i64 hs1 hs2
    have HAT := Lib.hid hat3
    have HY7 := Lib.hid y7
    clear hs1 hs2 hat3
    go_wp2_with fail
    clear y7
    go_loopw [70] (fun i wr => ∃ k : Nat, k ≤ S.length ∧ i = .int .i64 k ∧ Below w7.heap.size w7 wr) (fun i _ => S.length - (intOf i).toNat)
    case atStart => exact ⟨0, Nat.zero_le _, rfl, Below.refl _ _⟩
    case round =>
      obtain ⟨j, hj, rfl, hb⟩ := hrel
      by_cases hlt : j < S.length
      · have hj' : (j : Int) < (S.length : Int) := by omega
        obtain ⟨b3, o3, rfl, uy, huy, d0⟩ := HAT.out j S[j] (List.getElem?_eq_getElem hlt)
        rw [Nat.mul_one] at d0
        have hgy := List.getElem?_eq_getElem hlt
        have hmem := (HSM.out S[j]).1 (List.getElem_mem hlt)
        obtain ⟨y, hy⟩ : ∃ y, y = S[j] := ⟨_, rfl⟩
        rw [← hy] at huy hgy hmem
        clear hy
        replace d0 := cell_stays hb d0
        have z7 := cell_stays hb HY7.out
        have HUY := Lib.hid (huy.stays bndAt_stays hb)
        obtain ⟨Ay, cy, rfl, -⟩ := huy
        have hX7l : X7 < wr.heap.size := World.block_lt_of_cell? wr ⟨X7, _, none⟩ z7
        have hb3l : b3 < wr.heap.size := World.block_lt_of_cell? wr ⟨b3, _, none⟩ d0
        have n1 : X7 ≠ wr.heap.size := by omega
        have n2 : wr.heap.size ≠ X7 := by omega
        have n3 : b3 ≠ wr.heap.size := by omega
        have n4 : wr.heap.size ≠ b3 := by omega
        have HMEM2 := Lib.hid (any_same hmem)
        have HLR := Lib.hid ((HL.out.stays matAt_stays HB7.out).stays matAt_stays hb)
        have HGY := Lib.hid hgy
        clear hmem hgy
        go_wp2_with fail
        refine wp_gen fun w8 e8 => ?_
        have d8 : w8.cell? ⟨b3, o3 + j, none⟩ = some (.slice Ay y.length cy) := by rw [e8]; go_simp
        have z8 : w8.cell? ⟨X7, 0, none⟩ = some (.slice (some ⟨b3, o3, none⟩) S.length c3) := by rw [e8]; go_simp
        have x8 : w8.cell? ⟨wr.heap.size, 0, none⟩ = some (.int .i64 (j : Int)) := by rw [e8]; go_simp
        have hb8 : Below wr.heap.size wr w8 := by rw [e8]; exact (by repeat (first | exact Below.refl _ _ | assumption | refine Below.drew ?_ | refine bel_al ?_ _ | refine bel_set ?_ (by omega) _ | refine bel_tr ?_ (by assumption)))
        have HB8 := Lib.hid hb8
        obtain ⟨B8, hB8⟩ : ∃ B8, B8 = wr.heap.size := ⟨_, rfl⟩
        rw [← hB8] at x8 ⊢
        have HCT : Hid (∀ W, Below w8.heap.size w8 W → Calls Tryz.prog 31 #[.slice (some ⟨b, o, none⟩) l.length ca, .func (.func 32) #[] #[.pointer (some ⟨X7, 0, none⟩), .pointer (some ⟨B8, 0, none⟩)]] W fun e w' => e = .returned (.bool true) ∧ Below W.heap.size W w') := Lib.hid (fun W hW => by
          rw [← HMEM2.out]
          exact containsMats_any 32 [.pointer (some ⟨X7, 0, none⟩), .pointer (some ⟨B8, 0, none⟩)] (fun m => decide (bsC m y = 0)) l _ W (HLR.out.stays matAt_stays (bel_tr HB8.out hW)) (enters_of Tryz.func32 (by kernel_rfl) rfl)
            (fun W2 m u hb2 hm hu => sets1_any m y u (.slice Ay y.length cy) X7 B8 b3 o3 S.length c3 j W2 hu (HUY.out.stays bndAt_stays (bel_tr HB8.out (bel_tr hW hb2))) (cell_stays (bel_tr hW hb2) z8) (cell_stays (bel_tr hW hb2) x8) hlt (cell_stays (bel_tr hW hb2) d8)))
        clear e8 hb8 hB8 d0 z7 n1 n2 n3 n4
        by_cases hj0 : j = 0
        · subst hj0
          go_wp2_with fail
          refine wp_region_F (fun W => W.cell? ⟨X7, 0, none⟩ = some (.slice (some ⟨b3, o3, none⟩) S.length c3) ∧ W.cell? ⟨B8, 0, none⟩ = some (.int .i64 0)) (by repeat (first | exact grows_cell _ _ _ | exact grows_true | refine grows_and ?_ ?_)) (by kernel_rfl) (by kernel_rfl) ?hF ?_; (case hF => (first | exact ⟨‹_›, ‹_›⟩ | (go_simp; done) | (simp [*]; done) | (repeat' (first | (refine And.intro ?_ ?_) | (go_simp; done) | exact cell_stays (bel_al (Below.refl _ _) _) (by assumption) | assumption)))); intro hne hxx; have hG : Hid (Grows (fun W => W.cell? ⟨X7, 0, none⟩ = some (.slice (some ⟨b3, o3, none⟩) S.length c3) ∧ W.cell? ⟨B8, 0, none⟩ = some (.int .i64 0))) := (by repeat (first | exact grows_cell _ _ _ | exact grows_true | refine grows_and ?_ ?_)); (repeat (go_big_quiet_step ((go_at_call 31; exact cls_callB hG (fun W hW => HCT.out W hW))))); clear hG hxx hne; refine wpQuiet_nil ?_; rintro wq ⟨⟨w', hb', hF'⟩, rfl⟩
          clear hF'
          have HB9 := Lib.hid (bel_tr hb (bel_tr HB8.out hb'))
          clear hb'
          go_wp2_with fail
          go_roundw
          case rel => exact ⟨1, by omega, by go_num, HB9.out⟩
          case measure => simp [intOf]; omega
        · obtain ⟨i, rfl⟩ : ∃ i, j = i + 1 := ⟨j - 1, by omega⟩
          obtain ⟨b3', o3', hbo, ux, hux, q0⟩ := HAT.out i S[i] (List.getElem?_eq_getElem (by omega))
          simp only [Option.some.injEq, Addr.mk.injEq, and_true] at hbo
          obtain ⟨rfl, rfl⟩ := hbo
          rw [Nat.mul_one] at q0
          have hord := List.pairwise_iff_getElem.1 HASC.out i (i + 1) (by omega) hlt (by omega)
          have hyy : S[i + 1] = y := by
            have := HGY.out
            rw [List.getElem?_eq_getElem hlt] at this
            exact Option.some.inj this
          rw [hyy] at hord
          obtain ⟨x, hx⟩ : ∃ x, x = S[i]'(by omega) := ⟨_, rfl⟩
          rw [← hx] at hord hux
          have hm1 : bsC x y = -1 := by rcases bsC_unit x y with h | h | h <;> omega
          replace q0 := cell_stays HB8.out (cell_stays hb q0)
          have HUX := Lib.hid ((hux.stays bndAt_stays hb).stays bndAt_stays HB8.out)
          obtain ⟨Ax, cx, rfl, -⟩ := hux
          have HCM : Hid (∀ W, Below w8.heap.size w8 W → Calls Tryz.prog 16 #[.agg #[.slice Ax x.length cx], .agg #[.slice Ay y.length cy]] W fun e w' => e = .returned (.int .i64 (-1)) ∧ Below W.heap.size W w') := Lib.hid (fun W hW => by
            rw [← hm1]
            exact mcmpB x y _ _ W (HUX.out.stays bndAt_stays hW) (HUY.out.stays bndAt_stays (bel_tr HB8.out hW)))
          have k1 : (0 : Int) < (i : Int) + 1 := by omega
          have k2 : (i : Int) < (S.length : Int) := by omega
          have k3 : (i : Int) + 1 < (S.length : Int) := by omega
          have k4 : (0 : Int) ≤ (i : Int) + 1 := by omega
          clear hx hyy hord hm1 hj0
          go_wp2_with fail
          refine wp_region_F (fun W => W.cell? ⟨X7, 0, none⟩ = some (.slice (some ⟨b3, o3, none⟩) S.length c3) ∧ W.cell? ⟨B8, 0, none⟩ = some (.int .i64 ((i : Int) + 1)) ∧ W.cell? ⟨b3, o3 + i, none⟩ = some (.slice Ax x.length cx) ∧ W.cell? ⟨b3, o3 + (i + 1), none⟩ = some (.slice Ay y.length cy)) (by repeat (first | exact grows_cell _ _ _ | exact grows_true | refine grows_and ?_ ?_)) (by kernel_rfl) (by kernel_rfl) ?hF ?_; (case hF => (first | exact ⟨‹_›, ‹_›⟩ | (go_simp; done) | (simp [*]; done) | (repeat' (first | (refine And.intro ?_ ?_) | (go_simp; done) | exact cell_stays (bel_al (Below.refl _ _) _) (by assumption) | assumption)))); intro hne hxx; have hG : Hid (Grows (fun W => W.cell? ⟨X7, 0, none⟩ = some (.slice (some ⟨b3, o3, none⟩) S.length c3) ∧ W.cell? ⟨B8, 0, none⟩ = some (.int .i64 ((i : Int) + 1)) ∧ W.cell? ⟨b3, o3 + i, none⟩ = some (.slice Ax x.length cx) ∧ W.cell? ⟨b3, o3 + (i + 1), none⟩ = some (.slice Ay y.length cy))) := (by repeat (first | exact grows_cell _ _ _ | exact grows_true | refine grows_and ?_ ?_)); (repeat (go_big_quiet_step ((first | (go_at_call 31; exact cls_callB hG (fun W hW => HCT.out W hW)) | (go_at_call 16; exact cls_callB hG (fun W hW => HCM.out W hW)))))); clear hG hxx hne; refine wpQuiet_nil ?_; rintro wq ⟨⟨w', hb', hF'⟩, rfl⟩
          clear hF'
          have HB9 := Lib.hid (bel_tr hb (bel_tr HB8.out hb'))
          clear hb'
          go_wp2_with fail
          go_roundw
          case rel => exact ⟨i + 1 + 1, by omega, by go_num, HB9.out⟩
          case measure => simp [intOf]; omega
      · have hj' : ¬ (j : Int) < (S.length : Int) := by omega
        have HB8 := Lib.hid (bel_tr HB7.out hb)
        have HB78 := Lib.hid hb
        have z7 := cell_stays hb HY7.out
        have HZ7 := Lib.hid z7
        obtain ⟨wa, hwa⟩ : ∃ wa : World, wa = wr := ⟨_, rfl⟩
        subst hwa
        clear z7 hb
        go_wp2_with fail
        go_loopw [97] (fun i wr => ∃ k : Nat, k ≤ l.length ∧ i = .int .i64 k ∧ Below wa.heap.size wa wr) (fun i _ => l.length - (intOf i).toNat)
        case atStart => exact ⟨0, Nat.zero_le _, rfl, Below.refl _ _⟩
        case round =>
          obtain ⟨n, hn2, rfl, hb⟩ := hrel
          by_cases hlt : n < l.length
          · have hn' : (n : Int) < (l.length : Int) := by omega
            obtain ⟨ub, uo, hbo, uy, huy, d0⟩ := HAL.out n l[n] (List.getElem?_eq_getElem hlt)
            simp only [Option.some.injEq, Addr.mk.injEq, and_true] at hbo
            obtain ⟨rfl, rfl⟩ := hbo
            rw [Nat.mul_one] at d0
            have hmem := (HSM.out l[n]).2 (List.getElem_mem hlt)
            obtain ⟨y, hy⟩ : ∃ y, y = l[n] := ⟨_, rfl⟩
            rw [← hy] at huy hmem
            clear hy
            have hbw := bel_tr HB8.out hb
            replace d0 := cell_stays hbw d0
            have z7 := cell_stays hb HZ7.out
            have HUY := Lib.hid (huy.stays bndAt_stays hbw)
            obtain ⟨Ay, cy, rfl, -⟩ := huy
            have hX7l : X7 < wr.heap.size := World.block_lt_of_cell? wr ⟨X7, _, none⟩ z7
            have n1 : X7 ≠ wr.heap.size := by omega
            have n2 : wr.heap.size ≠ X7 := by omega
            have HMEM2 := Lib.hid (any_same2 hmem)
            have HSR2 := Lib.hid ((H37.out.stays matAt_stays HB78.out).stays matAt_stays hb)
            have HCT : Hid (∀ W, Below wr.heap.size wr W → W.cell? ⟨wr.heap.size, 0, none⟩ = some (.slice Ay y.length cy) → Calls Tryz.prog 31 #[.slice A3 S.length c3, .func (.func 33) #[] #[.pointer (some ⟨wr.heap.size, 0, none⟩)]] W fun e w' => e = .returned (.bool true) ∧ Below W.heap.size W w') := Lib.hid (fun W hW hc => by
              rw [← HMEM2.out]
              exact containsMats_any 33 [.pointer (some ⟨wr.heap.size, 0, none⟩)] (fun m => decide (bsC y m = 0)) S _ W (HSR2.out.stays matAt_stays hW) (enters_of Tryz.func33 (by kernel_rfl) rfl)
                (fun W2 m u hb2 hm hu => sets2_any y m (.slice Ay y.length cy) u wr.heap.size W2 (HUY.out.stays bndAt_stays (bel_tr hW hb2)) hu (cell_stays hb2 hc)))
            clear hmem hbw
            go_wp2_with (go_at_call 31; refine (HCT.out _ (by repeat (first | exact Below.refl _ _ | assumption | refine Below.drew ?_ | refine bel_al ?_ _ | refine bel_set ?_ (by omega) _ | refine bel_tr ?_ (by assumption))) (by go_simp)).mono ?_; rintro e w9 ⟨rfl, hb9⟩; have HB9 := Lib.hid (bel_tr (bel_tr hb (bel_one wr _)) hb9); clear hb9)
            go_roundw
            case rel => exact ⟨n + 1, by omega, by go_num, HB9.out⟩
            case measure => simp [intOf]; omega
          · have hn' : ¬ (n : Int) < (l.length : Int) := by omega
            have z7 := cell_stays hb HZ7.out
            have HB10 := Lib.hid (bel_tr HB8.out hb)
            have H3' := Lib.hid ((H37.out.stays matAt_stays HB78.out).stays matAt_stays hb)
            have H4' := Lib.hid ((H4.out.stays matAt_stays HB78.out).stays matAt_stays hb)
            clear hb
            go_wp2_with fail
            refine (rsameM_any S S _ _ _ H3'.out H4'.out).mono ?_
            rw [decide_eq_true rfl]
            rintro e w11 ⟨rfl, hb11⟩
            have HB11 := Lib.hid (bel_tr HB10.out hb11)
            clear hb11
            go_wp2_with fail
            refine (awake_any _ (HX.out.stays HB11.out)).mono ?_
            rintro e w12 ⟨rfl, hb12⟩
            go_wp2_with fail
            go_ret
            exact ⟨rfl, bel_tr HB11.out hb12⟩
-- FRAME
set_option maxRecDepth 100000 in
theorem sets_lifted (os : Os) (started : os.Started) (H : Type) (enc : TypeId × Value → H) :
    ReturnsInHanded {} Tryz.checked os 7 .any (fun w args => (Rows.matchSetsSpec.pre enc Tryz.prog Tryz.f7 [] false w args ∧ laidMetH Tryz.prog theLaid w) ∧ sizedMet enc Tryz.prog Tryz.f7 (OpenSpec.ofChange Rows.matchSetsSpec) false w args)
      (Rows.matchSetsSpec.post enc Tryz.prog Tryz.f7 false true false false) := by
  refine handed_shaped_and (C := Tryz.checked) (X := fun w _ => laidMetH Tryz.prog theLaid w) (fun _ _ _ hh h => h.of_heap hh) own_none started (by kernel_rfl) Tryz.func7
    (ChangeSpec.witness_shaped (enc := enc) (C := Tryz.checked) (os := os) (X := fun w _ => laidMetH Tryz.prog theLaid w) false (World.doorLaid Tryz.prog 400 os) #[.slice none 0 0, .int .u8 0] 8 rfl (World.shaped_of_RefB (by kernel_rfl) (by kernel_rfl)) (by kernel_rfl) (by kernel_rfl) (by kernel_rfl) (door_met os _)) ?_
  intro W base args ds gs before hval0 hW _ hsh hL _
  have htab : Lx W := ⟨tab_of_laid hL, Tryz.laysM144.s1_3 W hsh⟩
  have hval : ∀ (j : Nat) t v, Tryz.f7.params[j]? = some t → args[j]? = some v → Value.okWide Tryz.prog W .any base t v := hval0
  have hW' := hW
  obtain ⟨p, q, hA0, hV, rfl, hfz, hnd⟩ := hW
  have hA : DataW.TrodAll enc Tryz.prog W 0 (fun _ => true) true Tryz.f7.params.toList args.toList ds p := hA0
  rw [Tryz.params7] at hA hval
  obtain ⟨v0, vs0, d0, ds0, p0, q0, hargs, rfl, rfl, h0, r0⟩ := trodAll_cons hA
  obtain ⟨v1, vs1, d1, ds1, p1, q1, rfl, rfl, rfl, h1, r1⟩ := trodAll_cons r0
  obtain ⟨rfl, rfl, rfl⟩ := trodAll_nil r1
  obtain rfl : args = #[v0, v1] := by cases args; simp_all
  obtain ⟨rfl, rfl⟩ := trodVars_none hV
  have k0 := h0
  have lt0 : ∀ x ∈ p0, x.block < W.heap.size := by obtain ⟨m, hm⟩ := k0; exact DataW.trod_lt m _ _ _ hm
  obtain ⟨s0, len0, cap0, rfl⟩ := okWide_slice Tryz.underlying26 (hval 0 26 v0 rfl rfl)
  obtain ⟨l0, w0⟩ : ∃ l, IsMats W (.slice s0 len0 cap0) l := by obtain ⟨fuel, hf⟩ := h0; exact read_mats (v := .slice s0 len0 cap0) hf
  have k1 := h1
  have lt1 : ∀ x ∈ p1, x.block < W.heap.size := by obtain ⟨m, hm⟩ := k1; exact DataW.trod_lt m _ _ _ hm
  obtain ⟨a1, e1, w1⟩ : ∃ a, v1 = .int .u8 a ∧ 0 ≤ a ∧ a ≤ 255 := by obtain ⟨a, e, -, -, hw⟩ := open_int Tryz.underlying5 (hval 1 5 v1 rfl rfl) h1; exact ⟨a, e, u8_of_wf hw⟩
  subst e1
  clear hA0 hval0
  refine (sets_walk l0 _ a1 W w0 w1 htab).mono fun e W' ⟨he, bel⟩ => ?_
  subst he
  exact ⟨_, rfl, _, _, _, [], _, [], hW', trodAll_mk1 (shut_bool Tryz.underlying4 _), (trodAll_cons_mk (Below.trod laid_out (by kernel_rfl) (of_decide_eq_true (by kernel_rfl)) k0 bel lt0) (trodAll_cons_mk (Below.trod laid_out (by kernel_rfl) (of_decide_eq_true (by kernel_rfl)) k1 bel lt1) trodAll_mk0)), rfl, bel.frame _, fun h => by cases h⟩

theorem sets_holds : Rows.MatchSetsSaid :=
  OpenClaim.holds_of_wide 7 Tryz.f7 rfl rfl rfl rfl rfl rfl rfl ⟨rfl, rfl, rfl, rfl, rfl⟩ rfl rfl rfl rfl rfl (by kernel_rfl) Tryz.func7 (by kernel_rfl)
    (of_decide_eq_true (by kernel_rfl)) (by unfold Func.isWrapper; first | (rw [if_pos (by decide +kernel)]; kernel_rfl) | (rw [if_neg (by decide +kernel)]; exact ⟨rfl, rfl⟩))
    (fun os started H enc _ => sets_lifted os started H enc)

theorem sets_card : Rows.MatchSetsCardSaid :=
  Claim7.holds_tied_plain_at .later [] [.data, .data, .data] true _ false
    sets_holds (fun _ h => by cases h) (by kernel_rfl) (fun _ h => by cases h) matchSets_row_tie rfl ⟨rfl, rfl⟩ (by kernel_rfl) rfl
    (fun f fn hf hfn => by
      obtain rfl : f = 7 := Option.some.inj ((show Tryz.prog.funcNamed "tidegate/tidegatelaw17.MatchSets" = some 7 by kernel_rfl).symm.trans hf) |>.symm
      obtain rfl : fn = Tryz.f7 := (Option.some.inj (Tryz.func7.symm.trans hfn)).symm
      exact ⟨by kernel_rfl, fun j t ht => by
        rw [Tryz.params7] at ht
        have hm : t ∈ [26, 5] := by simpa using Array.mem_of_getElem? ht
        have hall : ([26, 5].all fun u => !Tryz.prog.wantsStandIn u) = true := by kernel_rfl
        exact (show Tryz.prog.wantsStandIn t = false by simpa using List.all_eq_true.1 hall t hm)⟩)
    (by kernel_rfl)
#print axioms sets_card
end Go.Proofs.YtclpglgigpjfoaaGreatDoor
