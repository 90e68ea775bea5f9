/- The small functions of the package ledger and of reference 41. -/
import Derived.Test.YtlofjcicpkfcdaaGreatDoorLchk2
import Derived.Test.YtlofjcicpkfcdaaGreatDoorLchk3
namespace Go.Proofs.YtlofjcicpkfcdaaGreatDoor
open Go.RowKit

def qOk (q : Int) : Bool := decide (0 ≤ q) && decide (q < 16)
def greatI (n : Int) : Bool := decide (n < -1099511627776) || decide (1099511627776 < n)
def subjE (q : Int) (bs : List Bnd) : Int := if qOk q = false then 2 else matErr bs
def late (p : Option Ety) (x : Ety) : Bool := match p with | none => false | some a => decide (0 ≤ entC a x)
def entE (p : Option Ety) (x : Ety) : Int := if subjE x.q x.bs ≠ 0 then subjE x.q x.bs else if x.n = 0 then 3 else if greatI x.n = true then 2 else if late p x = true then 14 else 0
def ledErr (l : List Ety) : Int := if 4096 < l.length then 5 else scanE entE none l
def chgE (c : Chg) : Int := if c.sg ≠ 1 ∧ c.sg ≠ -1 then 1 else subjE c.q c.bs

theorem entE_subj {p : Option Ety} {x : Ety} (h : subjE x.q x.bs ≠ 0) : entE p x = subjE x.q x.bs := if_pos h
theorem entE_3 {p : Option Ety} {x : Ety} (h : subjE x.q x.bs = 0) (hn : x.n = 0) : entE p x = 3 := by unfold entE; rw [if_neg (by simp [h]), if_pos hn]
theorem entE_2 {p : Option Ety} {x : Ety} (h : subjE x.q x.bs = 0) (hn : x.n ≠ 0) (hg : greatI x.n = true) : entE p x = 2 := by unfold entE; rw [if_neg (by simp [h]), if_neg hn, if_pos hg]
theorem entE_first {x : Ety} {l : List Ety} {k : Nat} (h : subjE x.q x.bs = 0) (hn : x.n ≠ 0) (hg : greatI x.n = false) (h0 : k = 0) : entE (prevL l k) x = 0 := by
  subst h0; unfold entE; rw [if_neg (by simp [h]), if_neg hn, if_neg (by simp [hg])]; rfl
theorem entE_14 {x p : Ety} {l : List Ety} {k : Nat} (h : subjE x.q x.bs = 0) (hn : x.n ≠ 0) (hg : greatI x.n = false) (h0 : k ≠ 0) (hp : l[k - 1]? = some p) (hr : 0 ≤ entC p x) : entE (prevL l k) x = 14 := by
  unfold entE; rw [if_neg (by simp [h]), if_neg hn, if_neg (by simp [hg]), prevL_pos h0 hp, if_pos (by simp [late, hr])]
theorem entE_0 {x p : Ety} {l : List Ety} {k : Nat} (h : subjE x.q x.bs = 0) (hn : x.n ≠ 0) (hg : greatI x.n = false) (h0 : k ≠ 0) (hp : l[k - 1]? = some p) (hr : entC p x < 0) : entE (prevL l k) x = 0 := by
  unfold entE; rw [if_neg (by simp [h]), if_neg hn, if_neg (by simp [hg]), prevL_pos h0 hp, if_neg (by simp [late]; omega)]

theorem queryErr_any (q : Int) (w : World) : Calls Tryz.prog 27 #[.int .i64 q] w fun e w' => e = .returned (.int .i64 (if qOk q = false then 2 else 0)) ∧ w = w' := by
  unfold qOk
  by_cases h1 : q < 0
  · rw [if_pos (by simp; omega)]
    go_enter Tryz.func27, Tryz.ntmps27
    go_wp2
    go_ret
    exact ⟨rfl, rfl⟩
  · by_cases h2 : 16 ≤ q
    · rw [if_pos (by simp; omega)]
      go_enter Tryz.func27, Tryz.ntmps27
      go_wp2
      go_ret
      exact ⟨rfl, rfl⟩
    · rw [if_neg (by simp; omega)]
      go_enter Tryz.func27, Tryz.ntmps27
      go_wp2
      go_ret
      exact ⟨rfl, rfl⟩
theorem rquery_any (q : Int) (w : World) : Calls Tryz.prog 30 #[.int .i64 q] w fun e w' => e = .returned (.bool (qOk q)) ∧ w = w' := by
  unfold qOk
  by_cases h1 : 0 ≤ q
  · by_cases h2 : q < 16
    · go_enter Tryz.func30, Tryz.ntmps30
      go_wp2
      go_ret
      exact ⟨by simp [*], rfl⟩
    · go_enter Tryz.func30, Tryz.ntmps30
      go_wp2
      go_ret
      exact ⟨by simp [*] <;> omega, rfl⟩
  · go_enter Tryz.func30, Tryz.ntmps30
    go_wp2
    go_ret
    exact ⟨by simp [*] <;> omega, rfl⟩
theorem great_any (n : Int) (w : World) : Calls Tryz.prog 32 #[.int .i64 n] w fun e w' => e = .returned (.bool (greatI n)) ∧ w = w' := by
  unfold greatI
  by_cases h1 : n < -1099511627776
  · go_enter Tryz.func32, Tryz.ntmps32
    go_wp2
    go_ret
    exact ⟨by simp [*], rfl⟩
  · go_enter Tryz.func32, Tryz.ntmps32
    go_wp2
    go_ret
    exact ⟨by simp [*] <;> omega, rfl⟩
theorem rgreat_any (n : Int) (w : World) : Calls Tryz.prog 35 #[.int .i64 n] w fun e w' => e = .returned (.bool (greatI n)) ∧ w = w' := by
  unfold greatI
  by_cases h1 : n < -1099511627776
  · go_enter Tryz.func35, Tryz.ntmps35
    go_wp2
    go_ret
    exact ⟨by simp [*], rfl⟩
  · go_enter Tryz.func35, Tryz.ntmps35
    go_wp2
    go_ret
    exact ⟨by simp [*] <;> omega, rfl⟩
set_option maxHeartbeats 1000000 in
theorem subject_any (q : Int) (l : List Bnd) (v : Value) (w : World) (hl : IsBnds w v l) :
    Calls Tryz.prog 21 #[.int .i64 q, matV v] w fun e w' => e = .returned (.int .i64 (subjE q l)) ∧ Below w.heap.size w w' := by
  have hc := fun W hW => mcheck_any l v W hW
  unfold matV at *
  unfold subjE
  have HL := Lib.hid hl
  have HC := Lib.hid hc
  obtain ⟨A, c, rfl, -⟩ := hl
  clear hc
  cases hq : qOk q with
  | false =>
    have HQ := Lib.hid hq
    clear hq
    go_enter Tryz.func21, Tryz.ntmps21
    go_wp2_with (go_at_call 27; refine (queryErr_any _ _).mono ?_; rw [HQ.out]; rintro e w' ⟨rfl, rfl⟩)
    go_ret
    exact ⟨rfl, (by repeat (first | exact Below.refl _ _ | assumption | refine Below.drew ?_ | refine bel_al ?_ _ | refine bel_set ?_ (by omega) _ | refine bel_tr ?_ (by assumption)))⟩
  | true =>
    have HQ := Lib.hid hq
    clear hq
    go_enter Tryz.func21, Tryz.ntmps21
    go_wp2_with (first | (go_at_call 27; refine (queryErr_any _ _).mono ?_; rw [HQ.out]; rintro e w' ⟨rfl, rfl⟩) | (go_at_call 43; refine (HC.out _ (HL.out.stays bndAt_stays (by repeat (first | exact Below.refl _ _ | assumption | refine Below.drew ?_ | refine bel_al ?_ _ | refine bel_set ?_ (by omega) _ | refine bel_tr ?_ (by assumption))))).mono ?_; rintro e w3 ⟨rfl, hb3⟩))
    go_ret
    exact ⟨rfl, (by repeat (first | exact Below.refl _ _ | assumption | refine Below.drew ?_ | refine bel_al ?_ _ | refine bel_set ?_ (by omega) _ | refine bel_tr ?_ (by assumption)))⟩
set_option maxHeartbeats 1000000 in
theorem rorder_any (a b : Ety) (v1 v2 : Value) (w : World) (hl : IsBnds w v1 a.bs) (hm : IsBnds w v2 b.bs) :
    Calls Tryz.prog 36 #[entV a.q v1 a.n, entV b.q v2 b.n] w fun e w' => e = .returned (.int .i64 (entC a b)) ∧ Gr w w' := by
  unfold entV entC
  obtain ⟨q1, l, n1⟩ := a
  obtain ⟨q2, m, n2⟩ := b
  simp only at hl hm ⊢
  have HL := Lib.hid hl
  have HM := Lib.hid hm
  obtain ⟨A, c, rfl, -, -, -⟩ := hl
  obtain ⟨B, d, rfl, -, -, -⟩ := hm
  rcases Int.lt_trichotomy q1 q2 with h | h | h
  · have hr : orI (cmpI q1 q2) (bsC l m) = -1 := by simp [orI, cmpI, h]
    rw [hr]
    clear hr
    go_enter Tryz.func36, Tryz.ntmps36
    go_wp2
    go_ret
    exact ⟨rfl, (by repeat (first | exact Gr.refl _ | assumption | refine Gr.drew ?_ | refine Gr.alloc ?_ _ | refine Gr.set ?_ (by omega) _ | refine Gr.trans ?_ (by assumption)))⟩
  · subst h
    have hr : orI (cmpI q1 q1) (bsC l m) = bsC l m := by simp [orI, cmpI]
    rw [hr]
    clear hr
    go_enter Tryz.func36, Tryz.ntmps36
    go_wp2_with (go_at_call 42; refine (rcompare_any l m _ _ _ (HL.out.stays bndAt_stays (Gr.below (by repeat (first | exact Gr.refl _ | assumption | refine Gr.drew ?_ | refine Gr.alloc ?_ _ | refine Gr.set ?_ (by omega) _ | refine Gr.trans ?_ (by assumption))))) (HM.out.stays bndAt_stays (Gr.below (by repeat (first | exact Gr.refl _ | assumption | refine Gr.drew ?_ | refine Gr.alloc ?_ _ | refine Gr.set ?_ (by omega) _ | refine Gr.trans ?_ (by assumption)))))).mono ?_; rintro e w2 ⟨rfl, hg2⟩)
    go_ret
    exact ⟨rfl, (by repeat (first | exact Gr.refl _ | assumption | refine Gr.drew ?_ | refine Gr.alloc ?_ _ | refine Gr.set ?_ (by omega) _ | refine Gr.trans ?_ (by assumption)))⟩
  · have hr : orI (cmpI q1 q2) (bsC l m) = 1 := by
      have h1 : cmpI q1 q2 = 1 := by unfold cmpI; rw [if_neg (by omega), if_pos h]
      rw [h1]; rfl
    rw [hr]
    clear hr
    have h' : ¬ q1 < q2 := by omega
    go_enter Tryz.func36, Tryz.ntmps36
    go_wp2
    go_ret
    exact ⟨rfl, (by repeat (first | exact Gr.refl _ | assumption | refine Gr.drew ?_ | refine Gr.alloc ?_ _ | refine Gr.set ?_ (by omega) _ | refine Gr.trans ?_ (by assumption)))⟩
set_option maxHeartbeats 1000000 in
theorem rchg_any (x : Chg) (v : Value) (w : World) (hl : IsBnds w v x.bs) :
    Calls Tryz.prog 24 #[chgV x.sg x.q v] w fun e w' => e = .returned (.int .i64 (chgE x)) ∧ Below w.heap.size w w' := by
  obtain ⟨sg, q, l⟩ := x
  simp only at hl ⊢
  have hc := fun W hW => rmcheck_any l v W hW
  unfold chgV chgE subjE
  unfold matV at hc
  have HL := Lib.hid hl
  have HC := Lib.hid hc
  obtain ⟨A, c, rfl, -⟩ := hl
  clear hc
  simp only
  obtain ⟨qb, hqb⟩ : ∃ b, qOk q = b := ⟨_, rfl⟩
  have HQ := Lib.hid hqb
  rw [hqb]
  clear hqb
  by_cases h1 : sg = 1
  · subst h1
    rw [if_neg (by simp)]
    cases qb <;>
    · go_enter Tryz.func24, Tryz.ntmps24
      go_wp2_with (first | (go_at_call 30; refine (rquery_any _ _).mono ?_; rw [HQ.out]; rintro e w' ⟨rfl, rfl⟩) | (go_at_call 34; refine (HC.out _ (HL.out.stays bndAt_stays (by repeat (first | exact Below.refl _ _ | assumption | refine Below.drew ?_ | refine bel_al ?_ _ | refine bel_set ?_ (by omega) _ | refine bel_tr ?_ (by assumption))))).mono ?_; rintro e w3 ⟨rfl, hb3⟩))
      go_ret
      exact ⟨rfl, (by repeat (first | exact Below.refl _ _ | assumption | refine Below.drew ?_ | refine bel_al ?_ _ | refine bel_set ?_ (by omega) _ | refine bel_tr ?_ (by assumption)))⟩
  · have h1' : (sg != 1) = true := by simpa using h1
    by_cases h2 : sg = -1
    · subst h2
      rw [if_neg (by simp)]
      cases qb <;>
      · go_enter Tryz.func24, Tryz.ntmps24
        go_wp2_with (first | (go_at_call 30; refine (rquery_any _ _).mono ?_; rw [HQ.out]; rintro e w' ⟨rfl, rfl⟩) | (go_at_call 34; refine (HC.out _ (HL.out.stays bndAt_stays (by repeat (first | exact Below.refl _ _ | assumption | refine Below.drew ?_ | refine bel_al ?_ _ | refine bel_set ?_ (by omega) _ | refine bel_tr ?_ (by assumption))))).mono ?_; rintro e w3 ⟨rfl, hb3⟩))
        go_ret
        exact ⟨rfl, (by repeat (first | exact Below.refl _ _ | assumption | refine Below.drew ?_ | refine bel_al ?_ _ | refine bel_set ?_ (by omega) _ | refine bel_tr ?_ (by assumption)))⟩
    · have h2' : (sg != -1) = true := by simpa using h2
      rw [if_pos ⟨h1, h2⟩]
      go_enter Tryz.func24, Tryz.ntmps24
      go_wp2
      go_ret
      exact ⟨rfl, (by repeat (first | exact Below.refl _ _ | assumption | refine Below.drew ?_ | refine bel_al ?_ _ | refine bel_set ?_ (by omega) _ | refine bel_tr ?_ (by assumption)))⟩
end Go.Proofs.YtlofjcicpkfcdaaGreatDoor
