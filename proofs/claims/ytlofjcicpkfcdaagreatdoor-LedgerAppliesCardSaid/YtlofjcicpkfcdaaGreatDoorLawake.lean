/- The examples of the chapter. -/
import Derived.Test.YtlofjcicpkfcdaaGreatDoorLdiff3
import Derived.Test.YtlofjcicpkfcdaaGreatDoorLsingle
import Derived.Test.YtlofjcicpkfcdaaGreatDoorLsame2
namespace Go.Proofs.YtlofjcicpkfcdaaGreatDoor
open Go.RowKit

def upC : Chg := ⟨1, 1, oneB 3⟩
def dnC : Chg := ⟨-1, 1, oneB 3⟩
theorem aw1 : applyR [] [upC, upC, dnC] = ([⟨1, oneB 3, 1⟩], 0) := by decide +kernel
theorem aw2 : applyR [⟨1, oneB 3, 1⟩] [dnC] = ([], 0) := by decide +kernel
theorem aw3 : diffR [⟨0, oneB 1, 2⟩] [⟨0, oneB 2, 1⟩] = ([⟨-1, 0, oneB 1⟩, ⟨-1, 0, oneB 1⟩, ⟨1, 0, oneB 2⟩], 0) := by decide +kernel
theorem aw4 : applyR [] [dnC] = ([⟨1, oneB 3, -1⟩], 0) := by decide +kernel
theorem aw5 : onceR [⟨1, oneB 3, -1⟩] = (false, 0) := by decide +kernel
theorem aw6 : standR [⟨1, oneB 3, -1⟩] 1 = ([], 0) := by decide +kernel
theorem chg_mean {w : World} {s q : Int} {v : Value} {bs : List Bnd} (hv : IsBnds w v bs) : Means ChgAt 3 w [.int .i64 s, .int .i64 q, v] [⟨s, q, bs⟩] := by
  refine ⟨rfl, by simp [Value.oneCell']; exact sl_oneCell hv, fun W b o hb hc k x hk => ?_⟩
  cases k with
  | zero => simp at hk; subst hk; exact ⟨v, hv.stays bndAt_stays hb, by simpa using hc 0 _ rfl, by simpa using hc 1 _ rfl, by simpa using hc 2 _ rfl⟩
  | succ k => simp at hk
/-- a new block of cells that mean a list reads as it -/
theorem sl_new {α : Type} {R : World → Nat → Nat → α → Prop} {sz n k : Nat} {w W W' : World} {cs : List Value} {l : List α} {t : TypeId} (hm : Means R sz w cs l) (hb : Below w.heap.size w W) (hW : W' = W.alloc (.cells cs.toArray t)) (hk : k = W.heap.size) (hn : n = l.length) (hl : n ≤ 1000) : Sl R sz W' (.slice (some ⟨k, 0, none⟩) n n) l := by
  subst hW hn hk
  exact sl_of_means (e := t) (base := 0) (hm.later hb) (bel_one _ _) ⟨hm.1, .inr ⟨W.heap.size, l.length, cs.toArray, rfl, Nat.zero_le _, heap_alloc_new W _, Nat.le_refl _, by unfold maxLen; omega, by simp [hm.1], by rw [← hm.1]; simp⟩⟩
theorem sl_len {α : Type} {R : World → Nat → Nat → α → Prop} {sz n : Nat} {w : World} {v : Value} {l : List α} (h : Sl R sz w v l) (hn : l.length = n) : ∃ A c, v = .slice A n c := by
  obtain ⟨A, c, hv, -⟩ := h; exact ⟨A, c, by rw [hv, hn]⟩

set_option maxRecDepth 100000 in
set_option maxHeartbeats 4000000 in
theorem awake_any (w : World) (htab : Tab w) : Calls Tryz.prog 6 #[] w fun e w' => e = .returned (.bool true) ∧ Below w.heap.size w w' := by
  have HT := Lib.hid htab
  clear htab
  go_enter Tryz.func6, Tryz.ntmps6
  go_wp2_with fail
  refine (single_any 3 _).mono ?_
  rintro e w1 ⟨A1, rfl, hv1, hb1⟩
  have HV1 := Lib.hid hv1
  clear hv1
  go_wp2_with fail
  refine (single_any 3 _).mono ?_
  rintro e w2 ⟨A2, rfl, hv2, hb2⟩
  have HV2 := Lib.hid hv2
  have HB2 := Lib.hid (bel_tr hb1 hb2)
  have HV12 := Lib.hid (HV1.out.stays bndAt_stays hb2)
  clear hb1 hb2 hv2
  go_wp2_with fail
  refine calls_gen fun W3 e3 => ?_
  have hb3 : Below w2.heap.size w2 W3 := by rw [e3]; exact (by repeat (first | exact Below.refl _ _ | assumption | refine Below.drew ?_ | refine bel_al ?_ _ | refine bel_set ?_ (by omega) _ | refine bel_tr ?_ (by assumption)))
  have d0 : W3.cell? ⟨w2.heap.size + 1, 0, none⟩ = some (.int .i64 (-1)) := by rw [e3]; go_simp
  have d1 : W3.cell? ⟨w2.heap.size + 1, 1, none⟩ = some (.int .i64 1) := by rw [e3]; go_simp
  have d2 : W3.cell? ⟨w2.heap.size + 1, 2, none⟩ = some (.slice A2 1 1) := by rw [e3]; go_simp
  have hC3 : IsChgs W3 (.slice (some ⟨w2.heap.size + 1 + 1, 0, none⟩) 3 3) [upC, upC, dnC] := sl_new (((chg_mean (s := 1) (q := 1) HV12.out).app (chg_mean (s := 1) (q := 1) HV12.out)).app (chg_mean (s := -1) (q := 1) HV2.out)) (by repeat (first | exact Below.refl _ _ | assumption | refine Below.drew ?_ | refine bel_al ?_ _ | refine bel_set ?_ (by omega) _ | refine bel_tr ?_ (by assumption))) e3 (by simp) rfl (by decide)
  have HB3 := Lib.hid (bel_tr HB2.out hb3)
  have HV3 := Lib.hid (HV2.out.stays bndAt_stays hb3)
  clear e3 hb3
  obtain ⟨D, hD⟩ : ∃ D, w2.heap.size + 1 = D := ⟨_, rfl⟩
  rw [hD] at d0 d1 d2 ⊢
  rw [hD] at hC3
  clear hD
  refine (apply_any [] [upC, upC, dnC] (.slice none 0 0) _ W3 (Sl.nil _ _ _ _ _ (Nat.zero_le _)) hC3 (HT.out.stays HB3.out)).mono ?_
  clear hC3
  rw [aw1]
  rintro e w4 ⟨v4, rfl, hv4, hb4⟩
  simp only at hv4
  obtain ⟨A4, c4, rfl⟩ := sl_len hv4 rfl
  replace d0 := cell_stays hb4 d0
  replace d1 := cell_stays hb4 d1
  replace d2 := cell_stays hb4 d2
  have HE4 := Lib.hid hv4
  have HB4 := Lib.hid (bel_tr HB3.out hb4)
  have HV4 := Lib.hid (HV3.out.stays bndAt_stays hb4)
  clear hv4 hb4
  go_wp2_with fail
  refine calls_gen fun W5 e5 => ?_
  have hb5 : Below w4.heap.size w4 W5 := by rw [e5]; exact (by repeat (first | exact Below.refl _ _ | assumption | refine Below.drew ?_ | refine bel_al ?_ _ | refine bel_set ?_ (by omega) _ | refine bel_tr ?_ (by assumption)))
  have hC5 : IsChgs W5 (.slice (some ⟨w4.heap.size, 0, none⟩) 1 1) [dnC] := sl_new (chg_mean (s := -1) (q := 1) HV4.out) (Below.refl _ _) e5 rfl rfl (by decide)
  clear e5
  refine (apply_any [⟨1, oneB 3, 1⟩] [dnC] _ _ W5 (HE4.out.stays entAt_stays hb5) hC5 (HT.out.stays (bel_tr HB4.out hb5))).mono ?_
  clear hC5
  rw [aw2]
  rintro e w6 ⟨v6, rfl, hv6, hb6⟩
  simp only at hv6
  obtain ⟨A6, c6, rfl⟩ := sl_len hv6 rfl
  have hb56 := bel_tr hb5 hb6
  replace d0 := cell_stays hb56 d0
  replace d1 := cell_stays hb56 d1
  replace d2 := cell_stays hb56 d2
  have HE6 := Lib.hid (HE4.out.stays entAt_stays hb56)
  have HB6 := Lib.hid (bel_tr HB4.out hb56)
  have HV6 := Lib.hid (HV4.out.stays bndAt_stays hb56)
  clear hv6 hb6 hb5 hb56
  go_wp2_with fail
  refine (single_any 1 _).mono ?_
  rintro e w7 ⟨A7, rfl, hv7, hb7⟩
  replace d0 := cell_stays hb7 d0
  replace d1 := cell_stays hb7 d1
  replace d2 := cell_stays hb7 d2
  have HV7 := Lib.hid hv7
  have HB7 := Lib.hid hb7
  clear hv7 hb7
  go_wp2_with fail
  refine calls_gen fun W7 e7 => ?_
  have hb77 : Below w7.heap.size w7 W7 := by rw [e7]; exact (by repeat (first | exact Below.refl _ _ | assumption | refine Below.drew ?_ | refine bel_al ?_ _ | refine bel_set ?_ (by omega) _ | refine bel_tr ?_ (by assumption)))
  have hE7 : IsEnts W7 (.slice (some ⟨w7.heap.size, 0, none⟩) 1 1) [⟨0, oneB 1, 2⟩] := sl_new (ent_one_mean (q := 0) (n := 2) HV7.out) (Below.refl _ _) e7 rfl rfl (by decide)
  have HE7 := Lib.hid hE7
  replace d0 := cell_stays hb77 d0
  replace d1 := cell_stays hb77 d1
  replace d2 := cell_stays hb77 d2
  have HB77 := Lib.hid (bel_tr HB7.out hb77)
  clear e7 hE7 hb77
  refine (single_any 2 _).mono ?_
  rintro e w8 ⟨A8, rfl, hv8, hb8⟩
  replace d0 := cell_stays hb8 d0
  replace d1 := cell_stays hb8 d1
  replace d2 := cell_stays hb8 d2
  have HV8 := Lib.hid hv8
  have HE8 := Lib.hid (HE7.out.stays entAt_stays hb8)
  have HB8 := Lib.hid (bel_tr HB77.out hb8)
  clear hv8 hb8
  go_wp2_with fail
  refine calls_gen fun W8 e8 => ?_
  have hb88 : Below w8.heap.size w8 W8 := by rw [e8]; exact (by repeat (first | exact Below.refl _ _ | assumption | refine Below.drew ?_ | refine bel_al ?_ _ | refine bel_set ?_ (by omega) _ | refine bel_tr ?_ (by assumption)))
  have hE8 : IsEnts W8 (.slice (some ⟨w8.heap.size, 0, none⟩) 1 1) [⟨0, oneB 2, 1⟩] := sl_new (ent_one_mean (q := 0) (n := 1) HV8.out) (Below.refl _ _) e8 rfl rfl (by decide)
  replace d0 := cell_stays hb88 d0
  replace d1 := cell_stays hb88 d1
  replace d2 := cell_stays hb88 d2
  have HB88 := Lib.hid (bel_tr HB8.out hb88)
  clear e8
  refine (diff_any [⟨0, oneB 1, 2⟩] [⟨0, oneB 2, 1⟩] _ _ W8 (HE8.out.stays entAt_stays hb88) hE8 (HT.out.stays (bel_tr HB6.out HB88.out))).mono ?_
  clear hE8 hb88
  rw [aw3]
  rintro e w9 ⟨v9, rfl, hv9, hb9⟩
  simp only at hv9
  obtain ⟨A9, c9, rfl⟩ := sl_len hv9 rfl
  replace d0 := cell_stays hb9 d0
  replace d1 := cell_stays hb9 d1
  replace d2 := cell_stays hb9 d2
  have HC9 := Lib.hid hv9
  have hb69 := bel_tr HB88.out hb9
  have HB9 := Lib.hid (bel_tr HB6.out hb69)
  have HE9 := Lib.hid (HE6.out.stays entAt_stays hb69)
  have HV9 := Lib.hid (HV6.out.stays bndAt_stays hb69)
  clear hv9 hb9 hb69
  go_wp2_with fail
  refine calls_gen fun W10 e10 => ?_
  have hb10 : Below w9.heap.size w9 W10 := by rw [e10]; exact (by repeat (first | exact Below.refl _ _ | assumption | refine Below.drew ?_ | refine bel_al ?_ _ | refine bel_set ?_ (by omega) _ | refine bel_tr ?_ (by assumption)))
  have hC10 : IsChgs W10 (.slice (some ⟨w9.heap.size, 0, none⟩) 1 1) [dnC] := sl_new (chg_mean (s := -1) (q := 1) HV9.out) (Below.refl _ _) e10 rfl rfl (by decide)
  clear e10 d0 d1 d2
  refine (apply_any [] [dnC] (.slice none 0 0) _ W10 (Sl.nil _ _ _ _ _ (Nat.zero_le _)) hC10 (HT.out.stays (bel_tr HB9.out hb10))).mono ?_
  clear hC10
  rw [aw4]
  rintro e w11 ⟨v11, rfl, hv11, hb11⟩
  simp only at hv11
  obtain ⟨A11, c11, rfl⟩ := sl_len hv11 rfl
  have HN := Lib.hid hv11
  have hb911 := bel_tr hb10 hb11
  have HB11 := Lib.hid (bel_tr HB9.out hb911)
  have HE11 := Lib.hid (HE9.out.stays entAt_stays hb911)
  have HC11 := Lib.hid (HC9.out.stays chgAt_stays hb911)
  clear hv11 hb11 hb10 hb911
  go_wp2_with fail
  refine (once_any [⟨1, oneB 3, -1⟩] _ _ HN.out).mono ?_
  rw [aw5]
  rintro e w12 ⟨rfl, hb12⟩
  have HB12 := Lib.hid hb12
  have HN12 := Lib.hid (HN.out.stays entAt_stays hb12)
  clear hb12
  go_wp2_with fail
  refine (standing_any [⟨1, oneB 3, -1⟩] 1 _ _ HN12.out).mono ?_
  rw [aw6]
  rintro e w13 ⟨v13, rfl, hv13, hb13⟩
  simp only at hv13
  obtain ⟨A13, c13, rfl⟩ := sl_len hv13 rfl
  have hb1113 := bel_tr HB12.out hb13
  have HB13 := Lib.hid (bel_tr HB11.out hb1113)
  have HE13 := Lib.hid (HE11.out.stays entAt_stays hb1113)
  have HC13 := Lib.hid (HC11.out.stays chgAt_stays hb1113)
  clear hv13 hb13 hb1113
  go_wp2_with fail
  refine (single_any 3 _).mono ?_
  rintro e w14 ⟨A14, rfl, hv14, hb14⟩
  have HV14 := Lib.hid hv14
  have HE14 := Lib.hid (HE13.out.stays entAt_stays hb14)
  have HC14 := Lib.hid (HC13.out.stays chgAt_stays hb14)
  have HB14 := Lib.hid (bel_tr HB13.out hb14)
  clear hv14 hb14
  go_wp2_with fail
  refine calls_gen fun W15 e15 => ?_
  have hb15 : Below w14.heap.size w14 W15 := by rw [e15]; exact (by repeat (first | exact Below.refl _ _ | assumption | refine Below.drew ?_ | refine bel_al ?_ _ | refine bel_set ?_ (by omega) _ | refine bel_tr ?_ (by assumption)))
  have hE15 : IsEnts W15 (.slice (some ⟨w14.heap.size, 0, none⟩) 1 1) [⟨1, oneB 3, 1⟩] := sl_new (ent_one_mean (q := 1) (n := 1) HV14.out) (Below.refl _ _) e15 rfl rfl (by decide)
  clear e15
  refine (rsame_any [⟨1, oneB 3, 1⟩] [⟨1, oneB 3, 1⟩] _ _ W15 (HE14.out.stays entAt_stays hb15) hE15).mono ?_
  clear hE15
  rw [decide_eq_true (rfl : [(⟨1, oneB 3, 1⟩ : Ety)] = [⟨1, oneB 3, 1⟩])]
  rintro e w16 ⟨rfl, hb16⟩
  have hb1416 := bel_tr hb15 hb16
  have HC16 := Lib.hid (HC14.out.stays chgAt_stays hb1416)
  have HB16 := Lib.hid (bel_tr HB14.out hb1416)
  clear hb15 hb16 hb1416
  go_wp2_with fail
  refine (single_any 1 _).mono ?_
  rintro e w17 ⟨A17, rfl, hv17, hb17⟩
  have HV17 := Lib.hid hv17
  have HB17 := Lib.hid hb17
  clear hv17 hb17
  go_wp2_with fail
  refine (single_any 1 _).mono ?_
  rintro e w18 ⟨A18, rfl, hv18, hb18⟩
  have HV18 := Lib.hid hv18
  have HV18a := Lib.hid (HV17.out.stays bndAt_stays hb18)
  have HB18 := Lib.hid (bel_tr HB17.out hb18)
  clear hv18 hb18
  go_wp2_with fail
  refine (single_any 2 _).mono ?_
  rintro e w19 ⟨A19, rfl, hv19, hb19⟩
  have HV19 := Lib.hid hv19
  have HV19a := Lib.hid (HV18a.out.stays bndAt_stays hb19)
  have HV19b := Lib.hid (HV18.out.stays bndAt_stays hb19)
  have HB19 := Lib.hid (bel_tr HB18.out hb19)
  clear hv19 hb19
  go_wp2_with fail
  refine calls_gen fun W20 e20 => ?_
  have hb20 : Below w19.heap.size w19 W20 := by rw [e20]; exact (by repeat (first | exact Below.refl _ _ | assumption | refine Below.drew ?_ | refine bel_al ?_ _ | refine bel_set ?_ (by omega) _ | refine bel_tr ?_ (by assumption)))
  have hC20 : IsChgs W20 (.slice (some ⟨w19.heap.size, 0, none⟩) 3 3) [⟨-1, 0, oneB 1⟩, ⟨-1, 0, oneB 1⟩, ⟨1, 0, oneB 2⟩] := sl_new (((chg_mean (s := -1) (q := 0) HV19a.out).app (chg_mean (s := -1) (q := 0) HV19b.out)).app (chg_mean (s := 1) (q := 0) HV19.out)) (Below.refl _ _) e20 rfl rfl (by decide)
  clear e20
  have hb1620 := bel_tr HB19.out hb20
  refine (rsameC_any [⟨-1, 0, oneB 1⟩, ⟨-1, 0, oneB 1⟩, ⟨1, 0, oneB 2⟩] [⟨-1, 0, oneB 1⟩, ⟨-1, 0, oneB 1⟩, ⟨1, 0, oneB 2⟩] _ _ W20 (HC16.out.stays chgAt_stays hb1620) hC20).mono ?_
  clear hC20
  rw [decide_eq_true (rfl : [(⟨-1, 0, oneB 1⟩ : Chg), ⟨-1, 0, oneB 1⟩, ⟨1, 0, oneB 2⟩] = [⟨-1, 0, oneB 1⟩, ⟨-1, 0, oneB 1⟩, ⟨1, 0, oneB 2⟩])]
  rintro e w21 ⟨rfl, hb21⟩
  have HB21 := Lib.hid (bel_tr HB16.out (bel_tr hb1620 hb21))
  clear hb1620 hb20 hb21
  go_wp2_with fail
  go_ret
  exact ⟨rfl, HB21.out⟩
end Go.Proofs.YtlofjcicpkfcdaaGreatDoor
