/- The law MatchNames: two well-formed matches have the same text, for different names, exactly if they are equal. No condition beyond the row's own. -/
import Derived.Test.YtclpglgigpjfoaaDoorTie
import Derived.Test.YtclpglgigpjfoaaDoorCards
import Derived.Test.YtclpglgigpjfoaaDoorMread
import Derived.Test.YtclpglgigpjfoaaDoorMawake
import Derived.Test.YtclpglgigpjfoaaDoorMfew
import Derived.Test.YtclpglgigpjfoaaDoorMplain
import Derived.Test.YtclpglgigpjfoaaDoorMnamesp
namespace Go.Proofs.YtclpglgigpjfoaaDoor
open Go.ChangeShapes Go.WideShapes Go.ChangeAt Go.RowKit Go.Deep

theorem mats_two {w : World} {b : Nat} {va vb : Value} {x y : List Bnd} (h0 : w.cell? ⟨b, 0, none⟩ = some va) (h1 : w.cell? ⟨b, 1, none⟩ = some vb) (ha : IsBnds w va x) (hb : IsBnds w vb y) : IsMats w (.slice (some ⟨b, 0, none⟩) 2 2) [x, y] :=
  ⟨_, 2, rfl, Nat.le_refl _, by decide, fun k u hk => ⟨b, 0, rfl, by
    match k, hk with
    | 0, hk => simp at hk; subst hk; exact ⟨va, ha, h0⟩
    | 1, hk => simp at hk; subst hk; exact ⟨vb, hb, h1⟩
    | k + 2, hk => simp at hk⟩⟩
def nvEnc (x : Nv) : List Value := [.string x.name, .int .i64 x.ty]
def nvCells (l : List Nv) : List Value := l.flatMap nvEnc
theorem nvCells_app (l m : List Nv) : nvCells (l ++ m) = nvCells l ++ nvCells m := List.flatMap_append
theorem nvCells_one (l : List Nv) : ∀ u ∈ nvCells l, u.oneCell' = true := fun u hu => by
  obtain ⟨x, _, hx⟩ := List.mem_flatMap.1 hu
  simp only [nvEnc, List.mem_cons, List.not_mem_nil, or_false] at hx
  rcases hx with rfl | rfl <;> rfl
theorem nvCells_at : ∀ {l : List Nv} {k : Nat} {x : Nv}, l[k]? = some x → ∀ r, r < 2 → (nvCells l)[k * 2 + r]? = (nvEnc x)[r]?
  | [], k, x, h, _, _ => by simp at h
  | y :: l, 0, x, h, r, hr => by
    simp at h; subst h
    unfold nvCells
    rw [List.flatMap_cons, Nat.zero_mul, Nat.zero_add, List.getElem?_append_left (by simpa [nvEnc] using hr)]
  | y :: l, k + 1, x, h, r, hr => by
    have ih := nvCells_at (l := l) (k := k) (x := x) (by simpa using h) r hr
    unfold nvCells at ih ⊢
    rw [List.flatMap_cons, List.getElem?_append_right (by simp [nvEnc]; omega), ← ih]
    congr 1
    simp [nvEnc]; omega
theorem nvRow_is {B : Nat} {wr : World} {av : Value} {l : List Nv} (h : wr.ownsRow B 30 2 av l.length (nvCells l)) : IsNvs wr av l := by
  obtain ⟨A, c, rfl, h2, h3, h4⟩ := ownsRow_src h (nvCells_one l)
  refine ⟨A, c, rfl, h2, h3, fun k x hk => ?_⟩
  have hkl := (List.getElem?_eq_some_iff.1 hk).1
  obtain ⟨b, o, hA, hcs⟩ := h4.2.2 (by omega)
  refine ⟨b, o, hA, hcs _ _ ?_, ?_⟩
  · have := nvCells_at hk 0 (by decide); simpa [nvEnc] using this
  · have := nvCells_at hk 1 (by decide); rw [Nat.add_assoc]; exact hcs _ _ (by simpa [nvEnc] using this)
theorem lawVs_at {k : Nat} (h : k < 16) : lawVs[k]? = some ⟨⟨(lawN (k : Int)).toArray⟩, 0⟩ := by
  unfold lawVs
  rw [List.getElem?_map, List.getElem?_range h]
  rfl
theorem lawEnc : ∀ k : Fin 16, ((Utf8.encode (97 + (k.val : Int))).data.toList == [UInt8.ofNat (97 + k.val)]) = true := by decide +kernel
theorem lawEnc_at {k : Nat} (h : k < 16) : Utf8.encode (97 + (k : Int)) = ⟨#[UInt8.ofNat (97 + k)]⟩ := by
  have := lawEnc ⟨k, h⟩
  rw [beq_iff_eq] at this
  apply ByteArray.ext
  apply Array.toList_inj.1
  simpa using this
theorem info_var : (Tryd.prog.info? 30).map (fun i => (i.zero, i.size, i.bytes)) = some (some (.agg #[.string ByteArray.empty, .int .i64 0]), 2, 24) := by kernel_rfl

set_option maxRecDepth 100000 in
set_option maxHeartbeats 8000000 in
theorem names_walk (a : List Bnd) (va : Value) (b : List Bnd) (vb : Value) (w : World) (ha : IsBnds w va a) (hb : IsBnds w vb b) (hx : Lx w) :
    Calls Tryd.prog 3 #[matV va, matV vb] w fun e w' => e = .returned (.bool true) ∧ Below w.heap.size w w' := by
  have HA := Lib.hid ha
  have HB := Lib.hid hb
  have HX := Lib.hid hx
  obtain ⟨A, ca, rfl, -⟩ := ha
  obtain ⟨B, cb, rfl, -⟩ := hb
  clear hx
  unfold matV
  obtain ⟨t, ht⟩ : ∃ t, fewM [a, b] = t := ⟨_, rfl⟩
  have HS := Lib.hid ht
  clear ht
  go_enter Tryd.func3, Tryd.ntmps3
  go_wp2_with fail
  refine calls_gen fun W1 e1 => ?_
  have c0 : W1.cell? ⟨w.heap.size, 0, none⟩ = some (.slice A a.length ca) := by rw [e1]; go_simp
  have c1 : W1.cell? ⟨w.heap.size + 1, 0, none⟩ = some (.slice B b.length cb) := by rw [e1]; go_simp
  have y0 : W1.cell? ⟨w.heap.size + 2, 0, none⟩ = some (.slice A a.length ca) := by rw [e1]; go_simp
  have y1 : W1.cell? ⟨w.heap.size + 2, 1, none⟩ = some (.slice B b.length cb) := by rw [e1]; go_simp
  have hb1 : Below w.heap.size w W1 := by rw [e1]; exact (by repeat (first | exact Below.refl _ _ | assumption | refine Below.drew ?_ | refine bel_al ?_ _ | refine bel_set ?_ (by omega) _ | refine bel_tr ?_ (by assumption)))
  clear e1
  refine (few17_any [a, b] _ W1 (mats_two y0 y1 (HA.out.stays bndAt_stays hb1) (HB.out.stays bndAt_stays hb1))).mono ?_
  rw [HS.out]
  rintro e w2 ⟨rfl, rfl⟩
  have HB1 := Lib.hid hb1
  clear y0 y1 hb1
  obtain ⟨Y, hY⟩ : ∃ Y, Y = w.heap.size + 1 := ⟨_, rfl⟩
  obtain ⟨X, hX⟩ : ∃ X, X = w.heap.size := ⟨_, rfl⟩
  rw [← hY] at c1
  rw [← hX] at c0
  rw [← hY, ← hX]
  clear hX hY
  cases t with
  | false =>
    go_wp2_with fail
    refine (awake_any _ (HX.out.stays HB1.out)).mono ?_
    rintro e w3 ⟨rfl, hb3⟩
    go_wp2_with fail
    go_ret
    exact ⟨rfl, bel_tr HB1.out hb3⟩
  | true =>
  obtain ⟨i0, hi, hz0, hz1, hz2⟩ := info_parts info_var
  have HC0 := Lib.hid c0
  have HC1 := Lib.hid c1
  clear c0 c1
  go_wp2_with fail
  go_loopw [5, 17] (fun av i wr => ∃ k : Nat, k ≤ 16 ∧ i = .int .i64 k ∧ Hid (wr.ownsRow W1.heap.size 30 2 av k (nvCells (lawVs.take k))) ∧ Below W1.heap.size W1 wr) (fun _ i _ => 16 - (intOf i).toNat)
  case atStart => exact ⟨0, Nat.zero_le _, rfl, Lib.hid ⟨rfl, .inl ⟨rfl, rfl⟩⟩, Below.refl _ _⟩
  case round =>
    obtain ⟨k, hk, rfl, hrow, hb⟩ := hrel
    have hrl := slice_own hrow.out
    obtain ⟨Ar, cr, rfl⟩ := hrl
    by_cases hlt : k < 16
    · have hk' : (k : Int) < 16 := by omega
      obtain ⟨s1, hs1⟩ : ∃ s1 : ByteArray, s1 = ⟨#[UInt8.ofNat (97 + k)]⟩ := ⟨_, rfl⟩
      obtain ⟨s2, hs2⟩ : ∃ s2 : ByteArray, s2 = ⟨(lawN (k : Int)).toArray⟩ := ⟨_, rfl⟩
      have henc : Utf8.encode (97 + (k : Int)) = s1 := by rw [hs1]; exact lawEnc_at hlt
      have hcat : ∀ W, (Op.stringOp .add ⟨#[118]⟩ s1).run Tryd.prog W = .ok (.string s2) W := fun W => by
        rw [run_string_add_sum W _ _ (by rw [hs1]; simp [ByteArray.size]), hs1, hs2]
        rfl
      have HS2 := Lib.hid hs2
      have hw : wrap64 (97 + (k : Int)) = 97 + (k : Int) := by unfold wrap64; omega
      clear hs1 hs2
      go_wp2_with (at_builtin; refine wpList_app _ rfl (.tmp 20) (.tmp 27) 28 rfl W1.heap.size 30 i0 _ 2 24 Tryd.underlying28 hi hz0 hz1 hz2 rfl (by decide) (.slice Ar k cr) k (nvCells (lawVs.take k)) rfl (ownsRow_below hrow.out (bel_one _ _)) (some ⟨wr.heap.size, 0, none⟩) 1 1 [.string s2, .int .i64 0] rfl (src_new' _ [.string s2, .int .i64 0] _ 1 2 _ rfl rfl (by intro u hu; simp only [List.mem_cons, List.not_mem_nil, or_false] at hu; rcases hu with rfl | rfl <;> rfl)) (by unfold maxLen; omega) (by omega) (by have := hb.size; simp; omega) ?_; intro v8 w8 hown8 hg8 hloc8)
      have hb8 : Below W1.heap.size W1 w8 := (bel_al hb _).trans (grown_below hg8 (by have := hb.size; simp; omega) (fun g h => (ownsRow_lt hrow.out h).1))
      refine ⟨⟨k + 1, by omega, by go_num, Lib.hid ?_, hb8⟩, by simp [intOf]; omega⟩
      rw [take_snoc' (lawVs_at hlt), nvCells_app]
      have h2 : nvCells [⟨⟨(lawN (k : Int)).toArray⟩, 0⟩] = [.string s2, .int .i64 0] := by rw [HS2.out]; rfl
      rw [h2]
      exact hown8
    · have hk' : ¬ (k : Int) < 16 := by omega
      have hk16 : k = 16 := by omega
      subst hk16
      have HNV : Hid (IsNvs wr (.slice Ar 16 cr) lawVs) := Lib.hid (by
        have h := hrow.out
        have hl : lawVs.length = 16 := by simp [lawVs]
        rw [List.take_of_length_le (by omega)] at h
        have h2 := nvRow_is (l := lawVs) (by rw [hl]; exact h)
        exact h2)
      have c0 := cell_stays hb HC0.out
      have c1 := cell_stays hb HC1.out
      have HB2 := Lib.hid (bel_tr HB1.out hb)
      have HNM : Hid (∀ v ∈ lawVs, v.name.data.toList.length ≤ 1048576) := Lib.hid (fun v hv => by
        unfold lawVs at hv
        obtain ⟨k, _, rfl⟩ := List.mem_map.1 hv
        simp [lawN])
      obtain ⟨⟨S, ea⟩, hS⟩ : ∃ r, formatR lawVs a = r := ⟨_, rfl⟩
      obtain ⟨⟨T, eb⟩, hT⟩ : ∃ r, formatR lawVs b = r := ⟨_, rfl⟩
      have hea : matErr a = ea := by rw [← formatR_law2 a, hS]
      have heb : matErr b = eb := by rw [← formatR_law2 b, hT]
      have HF1 := Lib.hid hS
      have HF2 := Lib.hid hT
      have HE1 := Lib.hid hea
      have HE2 := Lib.hid heb
      clear hS hT hea heb hb hk hlt
      go_wp2_with fail
      refine (format_any lawVs a _ _ wr (HA.out.stays bndAt_stays HB2.out) HNV.out (HX.out.stays HB2.out) HNM.out).mono ?_
      rw [HF1.out]
      rintro e w3 ⟨rfl, hb3⟩
      replace c0 := cell_stays hb3 c0
      replace c1 := cell_stays hb3 c1
      have HB3 := Lib.hid (bel_tr HB2.out hb3)
      have HNV3 := Lib.hid (HNV.out.stays nvAt_stays hb3)
      clear hb3
      go_wp2_with fail
      refine (format_any lawVs b _ _ w3 (HB.out.stays bndAt_stays HB3.out) HNV3.out (HX.out.stays HB3.out) HNM.out).mono ?_
      rw [HF2.out]
      rintro e w4 ⟨rfl, hb4⟩
      replace c0 := cell_stays hb4 c0
      replace c1 := cell_stays hb4 c1
      have HB4 := Lib.hid (bel_tr HB3.out hb4)
      clear hb4
      have HCKa : Hid (∀ W, Below w4.heap.size w4 W → Calls Tryd.prog 8 #[.agg #[.slice A a.length ca]] W fun e w' => e = .returned (.int .i64 ea) ∧ Below W.heap.size W w') := Lib.hid (fun W hW => by
        have h := mcheck_any a _ W (HA.out.stays bndAt_stays (bel_tr HB4.out hW))
        rwa [HE1.out] at h)
      have HCKb : Hid (∀ W, Below w4.heap.size w4 W → Calls Tryd.prog 8 #[.agg #[.slice B b.length cb]] W fun e w' => e = .returned (.int .i64 eb) ∧ Below W.heap.size W w') := Lib.hid (fun W hW => by
        have h := mcheck_any b _ W (HB.out.stays bndAt_stays (bel_tr HB4.out hW))
        rwa [HE2.out] at h)
      by_cases hz : ea = 0 ∧ eb = 0
      · obtain ⟨rfl, rfl⟩ := hz
        obtain ⟨x, hx⟩ : ∃ x, bsC a b = x := ⟨_, rfl⟩
        have HCM : Hid (∀ W, Below w4.heap.size w4 W → Calls Tryd.prog 9 #[.agg #[.slice A a.length ca], .agg #[.slice B b.length cb]] W fun e w' => e = .returned (.int .i64 x) ∧ Below W.heap.size W w') := Lib.hid (fun W hW => by
          rw [← hx]
          exact (mcompare_any a b (.slice A a.length ca) (.slice B b.length cb) W (HA.out.stays bndAt_stays (bel_tr HB4.out hW)) (HB.out.stays bndAt_stays (bel_tr HB4.out hW))).mono fun _ _ h => ⟨h.1, h.2.below⟩)
        have hst : (S.toList == T.toList) = (x == 0) := by
          have h1 := formatR_same HE1.out HE2.out
          rw [HF1.out, HF2.out] at h1
          rw [Bool.eq_iff_iff, beq_iff_eq, beq_iff_eq, ← hx, bsC_eq, ← h1]
          exact ⟨fun h => by
            rw [ByteArray.toList_eq, ByteArray.toList_eq] at h
            apply ByteArray.ext
            apply Array.toList_inj.1
            exact h, fun h => by simp only at h; rw [h]⟩
        clear hx
        go_wp2_with (go_at_call 9; refine (HCM.out _ (Below.refl _ _)).mono ?_; rintro e w5 ⟨rfl, hb5⟩; have HB5 := Lib.hid (bel_tr HB4.out hb5); clear hb5)
        have HB6 := HB5
        refine (awake_any _ (HX.out.stays HB6.out)).mono ?_
        rintro e w8 ⟨rfl, hb8⟩
        go_wp2_with fail
        go_ret
        exact ⟨rfl, bel_tr HB6.out hb8⟩
      · by_cases hea : ea = 0
        · have heb : (eb != 0) = true := by
            have : ¬ eb = 0 := fun h => hz ⟨hea, h⟩
            simpa using this
          have heb' : (eb == 0) = false := by
            have : ¬ eb = 0 := fun h => hz ⟨hea, h⟩
            simpa using this
          subst hea
          clear hz
          go_wp2_with fail
          refine (HCKa.out _ (Below.refl _ _)).mono ?_
          rintro e w5 ⟨rfl, hb5⟩
          replace c1 := cell_stays hb5 c1
          have HB5 := Lib.hid hb5
          clear hb5
          go_wp2_with fail
          refine (HCKb.out _ HB5.out).mono ?_
          rintro e w6 ⟨rfl, hb6⟩
          have HB6 := Lib.hid (bel_tr HB4.out (bel_tr HB5.out hb6))
          clear hb6
          go_wp2_with fail
          refine (awake_any _ (HX.out.stays HB6.out)).mono ?_
          rintro e w8 ⟨rfl, hb8⟩
          go_wp2_with fail
          go_ret
          exact ⟨rfl, bel_tr HB6.out hb8⟩
        · have hea1 : (ea != 0) = true := by simpa using hea
          have hea2 : (ea == 0) = false := by simpa using hea
          clear hz hea
          go_wp2_with fail
          refine (HCKa.out _ (Below.refl _ _)).mono ?_
          rintro e w5 ⟨rfl, hb5⟩
          replace c1 := cell_stays hb5 c1
          have HB5 := Lib.hid hb5
          clear hb5
          go_wp2_with fail
          refine (HCKb.out _ HB5.out).mono ?_
          rintro e w6 ⟨rfl, hb6⟩
          have HB6 := Lib.hid (bel_tr HB4.out (bel_tr HB5.out hb6))
          clear hb6
          go_wp2_with fail
          refine (awake_any _ (HX.out.stays HB6.out)).mono ?_
          rintro e w8 ⟨rfl, hb8⟩
          go_wp2_with fail
          go_ret
          exact ⟨rfl, bel_tr HB6.out hb8⟩
-- FRAME
set_option maxRecDepth 100000 in
theorem names_lifted (os : Os) (started : os.Started) (H : Type) (enc : TypeId × Value → H) :
    ReturnsInHanded {} Tryd.checked os 3 .any (fun w args => (Rows.matchNamesSpec.pre enc Tryd.prog Tryd.f3 [] false w args ∧ laidMetH Tryd.prog theLaid w) ∧ sizedMet enc Tryd.prog Tryd.f3 (OpenSpec.ofChange Rows.matchNamesSpec) false w args)
      (Rows.matchNamesSpec.post enc Tryd.prog Tryd.f3 false true false false) := by
  refine handed_shaped_and (C := Tryd.checked) (X := fun w _ => laidMetH Tryd.prog theLaid w) (fun _ _ _ hh h => h.of_heap hh) own_none started (by kernel_rfl) Tryd.func3
    (ChangeSpec.witness_shaped (enc := enc) (C := Tryd.checked) (os := os) (X := fun w _ => laidMetH Tryd.prog theLaid w) false (World.doorLaid Tryd.prog 400 os) #[.agg #[.slice none 0 0], .agg #[.slice none 0 0]] 8 rfl (World.shaped_of_RefB (by kernel_rfl) (by kernel_rfl)) (by kernel_rfl) (by kernel_rfl) (by kernel_rfl) (door_met os _)) ?_
  intro W base args ds gs before hval0 hW _ hsh hL _
  have htab : Lx W := ⟨tab_of_laid hL, Tryd.laysM144.s1_3 W hsh⟩
  have hval : ∀ (j : Nat) t v, Tryd.f3.params[j]? = some t → args[j]? = some v → Value.okWide Tryd.prog W .any base t v := hval0
  have hW' := hW
  obtain ⟨p, q, hA0, hV, rfl, hfz, hnd⟩ := hW
  have hA : DataW.TrodAll enc Tryd.prog W 0 (fun _ => true) true Tryd.f3.params.toList args.toList ds p := hA0
  rw [Tryd.params3] at hA hval
  obtain ⟨v0, vs0, d0, ds0, p0, q0, hargs, rfl, rfl, h0, r0⟩ := trodAll_cons hA
  obtain ⟨v1, vs1, d1, ds1, p1, q1, rfl, rfl, rfl, h1, r1⟩ := trodAll_cons r0
  obtain ⟨rfl, rfl, rfl⟩ := trodAll_nil r1
  obtain rfl : args = #[v0, v1] := by cases args; simp_all
  obtain ⟨rfl, rfl⟩ := trodVars_none hV
  have k0 := h0
  have lt0 : ∀ x ∈ p0, x.block < W.heap.size := by obtain ⟨m, hm⟩ := k0; exact DataW.trod_lt m _ _ _ hm
  obtain ⟨u0, l0, rfl, w0⟩ := read_mat_by_value (hval 0 24 v0 rfl rfl) h0
  have k1 := h1
  have lt1 : ∀ x ∈ p1, x.block < W.heap.size := by obtain ⟨m, hm⟩ := k1; exact DataW.trod_lt m _ _ _ hm
  obtain ⟨u1, l1, rfl, w1⟩ := read_mat_by_value (hval 1 24 v1 rfl rfl) h1
  clear hA0 hval0
  refine (names_walk l0 u0 l1 u1 W w0 w1 htab).mono fun e W' ⟨he, bel⟩ => ?_
  subst he
  exact ⟨_, rfl, _, _, _, [], _, [], hW', trodAll_mk1 (shut_bool Tryd.underlying4 _), (trodAll_cons_mk (Below.trod laid_out (by kernel_rfl) (of_decide_eq_true (by kernel_rfl)) k0 bel lt0) (trodAll_cons_mk (Below.trod laid_out (by kernel_rfl) (of_decide_eq_true (by kernel_rfl)) k1 bel lt1) trodAll_mk0)), rfl, bel.frame _, fun h => by cases h⟩

theorem names_holds : Rows.MatchNamesSaid :=
  OpenClaim.holds_of_wide 3 Tryd.f3 rfl rfl rfl rfl rfl rfl rfl ⟨rfl, rfl, rfl, rfl, rfl⟩ rfl rfl rfl rfl rfl (by kernel_rfl) Tryd.func3 (by kernel_rfl)
    (of_decide_eq_true (by kernel_rfl)) (by unfold Func.isWrapper; first | (rw [if_pos (by decide +kernel)]; kernel_rfl) | (rw [if_neg (by decide +kernel)]; exact ⟨rfl, rfl⟩))
    (fun os started H enc _ => names_lifted os started H enc)

theorem names_card : Rows.MatchNamesCardSaid :=
  Claim7.holds_tied_plain_at .later [] [.data, .data, .data] true _ false
    names_holds (fun _ h => by cases h) (by kernel_rfl) (fun _ h => by cases h) matchNames_row_tie rfl ⟨rfl, rfl⟩ (by kernel_rfl) rfl
    (fun f fn hf hfn => by
      obtain rfl : f = 3 := Option.some.inj ((show Tryd.prog.funcNamed "tidegate/tidegatelaw17.MatchNames" = some 3 by kernel_rfl).symm.trans hf) |>.symm
      obtain rfl : fn = Tryd.f3 := (Option.some.inj (Tryd.func3.symm.trans hfn)).symm
      exact ⟨by kernel_rfl, fun j t ht => by
        rw [Tryd.params3] at ht
        have hm : t ∈ [24, 24] := by simpa using Array.mem_of_getElem? ht
        have hall : ([24, 24].all fun u => !Tryd.prog.wantsStandIn u) = true := by kernel_rfl
        exact (show Tryd.prog.wantsStandIn t = false by simpa using List.all_eq_true.1 hall t hm)⟩)
    (by kernel_rfl)
#print axioms names_card
end Go.Proofs.YtclpglgigpjfoaaDoor
