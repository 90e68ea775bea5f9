/- ledger.limited, both, Merge, Once. -/
import Derived.Test.YtlofjcicpkfcdaaGreatDoorLtot2
import Derived.Test.YtlofjcicpkfcdaaGreatDoorLled3
namespace Go.Proofs.YtlofjcicpkfcdaaGreatDoor
open Go.RowKit

def limR (T : List Ety) : List Ety × Int := if 4096 < T.length then ([], 5) else if T.any (fun x => greatI x.n) = true then ([], 2) else (T, 0)
def LedRet (w : World) (r : List Ety × Int) (e : Ending) (W : World) : Prop := ∃ v, e = .returned (.tuple #[v, .int .i64 r.2]) ∧ IsEnts W v r.1 ∧ Below w.heap.size w W
def LedRetN (B : Nat) (w : World) (r : List Ety × Int) (e : Ending) (W : World) : Prop := ∃ v, e = .returned (.tuple #[v, .int .i64 r.2]) ∧ NewEnts B W v r.1 ∧ Below w.heap.size w W
def bothE (a b : List Ety) : Int := if ledErr a ≠ 0 then ledErr a else ledErr b
def mergeR (a b : List Ety) : List Ety × Int := if bothE a b ≠ 0 then ([], bothE a b) else limR (sumE [] (a ++ b))
def onceR (l : List Ety) : Bool × Int := if ledErr l ≠ 0 then (false, ledErr l) else (!l.any (fun x => x.n != 1), 0)

theorem greatP_any (q n : Int) (A : Option Addr) (m c : Nat) (w : World) : Calls Tryz.prog 44 #[.agg #[.int .i64 q, .slice A m c, .int .i64 n]] w fun e w' => e = .returned (.bool (greatI n)) ∧ Below w.heap.size w w' := by
  go_enter Tryz.func44, Tryz.ntmps44
  go_wp2_with (go_at_call 32; refine (great_any _ _).mono ?_; rintro e w' ⟨rfl, rfl⟩)
  go_ret
  exact ⟨rfl, (by repeat (first | exact Below.refl _ _ | assumption | refine Below.drew ?_ | refine bel_al ?_ _ | refine bel_set ?_ (by omega) _ | refine bel_tr ?_ (by assumption)))⟩
theorem enter_great (args : Array Value) (W : World) : (callFunc 44 args).run Tryz.prog W = .ok (.enter 44 args) W := enters_of Tryz.func44 (by kernel_rfl) rfl args W
theorem onceP_any (q n : Int) (A : Option Addr) (m c : Nat) (w : World) : Calls Tryz.prog 41 #[.agg #[.int .i64 q, .slice A m c, .int .i64 n]] w fun e w' => e = .returned (.bool (n != 1)) ∧ Below w.heap.size w w' := by
  go_enter Tryz.func41, Tryz.ntmps41
  go_wp2
  go_ret
  exact ⟨by simp, (by repeat (first | exact Below.refl _ _ | assumption | refine Below.drew ?_ | refine bel_al ?_ _ | refine bel_set ?_ (by omega) _ | refine bel_tr ?_ (by assumption)))⟩
theorem enter_once (args : Array Value) (W : World) : (callFunc 41 args).run Tryz.prog W = .ok (.enter 41 args) W := enters_of Tryz.func41 (by kernel_rfl) rfl args W

set_option maxHeartbeats 1000000 in
theorem limited_new (B : Nat) (T : List Ety) (v : Value) (w : World) (hl : NewEnts B w v T) : Calls Tryz.prog 22 #[v] w (LedRetN B w (limR T)) := by
  have hcon := containsEnts_any 44 [] (fun x => greatI x.n) T v w hl.is enter_great (fun W x u hW hx hu => by
    obtain ⟨A, c, rfl, -⟩ := hu
    exact greatP_any x.q x.n A _ c W)
  have HC := Lib.hid hcon
  have HL := Lib.hid hl
  obtain ⟨A, c, rfl, h1, h2, -⟩ := hl
  have hn := len_i64 h1 h2
  clear hcon h1 h2
  unfold limR
  by_cases hm : 4096 < T.length
  · rw [if_pos hm]
    have hm' : (4096 : Int) < (T.length : Int) := by omega
    go_enter Tryz.func22, Tryz.ntmps22
    go_wp2_with fail
    go_ret2
    exact ⟨_, rfl, Sl.nil _ _ _ _ _ (Nat.zero_le _), Below.refl _ _⟩
  rw [if_neg hm]
  have hm' : ¬ (4096 : Int) < (T.length : Int) := by omega
  obtain ⟨b, hb⟩ : ∃ b, T.any (fun x => greatI x.n) = b := ⟨_, rfl⟩
  have HB := Lib.hid hb
  rw [hb]
  clear hb hm
  cases b with
  | true =>
    go_enter Tryz.func22, Tryz.ntmps22
    go_wp2_with (go_at_call 40; refine HC.out.mono ?_; rw [HB.out]; rintro e w2 ⟨rfl, hb2⟩)
    go_ret2
    exact ⟨_, rfl, Sl.nil _ _ _ _ _ (Nat.zero_le _), hb2⟩
  | false =>
    go_enter Tryz.func22, Tryz.ntmps22
    go_wp2_with (go_at_call 40; refine HC.out.mono ?_; rw [HB.out]; rintro e w2 ⟨rfl, hb2⟩)
    go_ret2
    exact ⟨_, rfl, HL.out.grow hb2, hb2⟩
theorem LedRetN.is {B : Nat} {w : World} {r : List Ety × Int} {e : Ending} {W : World} (h : LedRetN B w r e W) : LedRet w r e W := by
  obtain ⟨v, h1, h2, h3⟩ := h; exact ⟨v, h1, h2.is, h3⟩
theorem limited_any (T : List Ety) (v : Value) (w : World) (hl : IsEnts w v T) : Calls Tryz.prog 22 #[v] w (LedRet w (limR T)) :=
  (limited_new 0 T v w (NewEnts.of hl)).mono fun _ _ h => h.is

set_option maxRecDepth 100000 in
set_option maxHeartbeats 1000000 in
theorem both_any (a b : List Ety) (va vb : Value) (w : World) (ha : IsEnts w va a) (hb : IsEnts w vb b) : Calls Tryz.prog 38 #[va, vb] w fun e w' => e = .returned (.int .i64 (bothE a b)) ∧ Below w.heap.size w w' := by
  have HA := Lib.hid ha
  have HB := Lib.hid hb
  obtain ⟨A, c, rfl, -⟩ := ha
  obtain ⟨B, d, rfl, -⟩ := hb
  unfold bothE
  obtain ⟨e1, he1⟩ : ∃ e, ledErr a = e := ⟨_, rfl⟩
  have HE1 := Lib.hid he1
  rw [he1]
  clear he1
  by_cases h0 : e1 = 0
  · subst h0
    rw [if_neg (by simp)]
    go_enter Tryz.func38, Tryz.ntmps38
    go_wp2_with fail
    refine (lcheck_any a _ w HA.out).mono ?_
    rw [HE1.out]
    rintro e w2 ⟨rfl, hb2⟩
    go_wp2_with fail
    refine (lcheck_any b _ w2 (HB.out.stays entAt_stays hb2)).mono ?_
    rintro e w3 ⟨rfl, hb3⟩
    go_wp2_with fail
    go_ret
    exact ⟨rfl, bel_tr hb2 hb3⟩
  · rw [if_pos h0]
    have h0' : (e1 != 0) = true := by simpa using h0
    go_enter Tryz.func38, Tryz.ntmps38
    go_wp2_with (go_at_call 11; refine (lcheck_any a _ w HA.out).mono ?_; rw [HE1.out]; rintro e w2 ⟨rfl, hb2⟩)
    go_ret
    exact ⟨rfl, hb2⟩
set_option maxRecDepth 100000 in
set_option maxHeartbeats 1000000 in
theorem once_any (l : List Ety) (v : Value) (w : World) (hl : IsEnts w v l) : Calls Tryz.prog 18 #[v] w fun e w' => e = .returned (.tuple #[.bool (onceR l).1, .int .i64 (onceR l).2]) ∧ Below w.heap.size w w' := by
  have hcon := fun W hW => containsEnts_any 41 [] (fun x => x.n != 1) l v W (hl.stays entAt_stays hW) enter_once (fun W x u hW hx hu => by
    obtain ⟨A, c, rfl, -⟩ := hu
    exact onceP_any x.q x.n A _ c W)
  have HC := Lib.hid hcon
  have HL := Lib.hid hl
  obtain ⟨A, c, rfl, -⟩ := hl
  clear hcon
  unfold onceR
  obtain ⟨e1, he1⟩ : ∃ e, ledErr l = e := ⟨_, rfl⟩
  have HE1 := Lib.hid he1
  rw [he1]
  obtain ⟨b, hb⟩ : ∃ b, l.any (fun x => x.n != 1) = b := ⟨_, rfl⟩
  have HB := Lib.hid hb
  rw [hb]
  clear hb he1
  by_cases h0 : e1 = 0
  · subst h0
    rw [if_neg (by simp)]
    go_enter Tryz.func18, Tryz.ntmps18
    go_wp2_with (first | (go_at_call 11; refine (lcheck_any l _ w HL.out).mono ?_; rw [HE1.out]; rintro e w2 ⟨rfl, hb2⟩) | (go_at_call 40; refine (HC.out w2 hb2).mono ?_; rw [HB.out]; rintro e w3 ⟨rfl, hb3⟩))
    go_ret2
    exact ⟨rfl, bel_tr hb2 hb3⟩
  · rw [if_pos h0]
    have h0' : (e1 != 0) = true := by simpa using h0
    go_enter Tryz.func18, Tryz.ntmps18
    go_wp2_with (go_at_call 11; refine (lcheck_any l _ w HL.out).mono ?_; rw [HE1.out]; rintro e w2 ⟨rfl, hb2⟩)
    go_ret2
    exact ⟨rfl, hb2⟩
theorem sumE_app (a b : List Ety) : sumE [] (a ++ b) = sumE (sumE [] a) b := by unfold sumE; rw [List.foldl_append]
theorem led_of {p : Option Ety} : ∀ {l : List Ety}, scanE entE p l = 0 → Led l ∧ (∀ x ∈ l, FitE x) ∧ ∀ a, p = some a → ∀ x ∈ l, entC a x < 0
  | [], _ => ⟨Led.nil, by simp, by simp⟩
  | x :: l, h => by
    simp only [scanE] at h
    by_cases h0 : entE p x = 0
    · rw [if_pos h0] at h
      obtain ⟨h1, h2, h3⟩ := led_of (p := some x) h
      unfold entE at h0
      by_cases hs : subjE x.q x.bs = 0
      · rw [if_neg (by simp [hs])] at h0
        by_cases hn : x.n = 0
        · rw [if_pos hn] at h0; exact absurd h0 (by decide)
        · rw [if_neg hn] at h0
          by_cases hg : greatI x.n = true
          · rw [if_pos hg] at h0; exact absurd h0 (by decide)
          · rw [if_neg hg] at h0
            have hg' : -1099511627776 ≤ x.n ∧ x.n ≤ 1099511627776 := by
              simp only [greatI, Bool.or_eq_true, decide_eq_true_eq, not_or] at hg
              omega
            have hlate : late p x = false := by
              by_cases hl : late p x = true
              · rw [if_pos hl] at h0; exact absurd h0 (by decide)
              · simpa using hl
            refine ⟨⟨List.pairwise_cons.2 ⟨h3 x rfl, h1.1⟩, fun y hy => ?_⟩, fun y hy => ?_, fun a ha y hy => ?_⟩
            · rcases List.mem_cons.1 hy with rfl | hy
              · exact hn
              · exact h1.2 y hy
            · rcases List.mem_cons.1 hy with rfl | hy
              · exact ⟨hs, hg'⟩
              · exact h2 y hy
            · subst ha
              have hax : entC a x < 0 := by simpa [late] using hlate
              rcases List.mem_cons.1 hy with rfl | hy
              · exact hax
              · exact entC_pc.lt a x y hax (h3 x rfl y hy)
      · rw [if_pos hs] at h0; exact absurd h0 hs
    · rw [if_neg h0] at h; exact absurd h h0
theorem led_ok {l : List Ety} (h : ledErr l = 0) : Led l ∧ (∀ x ∈ l, FitE x) ∧ l.length ≤ 4096 := by
  unfold ledErr at h
  split at h
  · exact absurd h (by decide)
  · exact ⟨(led_of h).1, (led_of h).2.1, by omega⟩
theorem sum_led {l : List Ety} (h : Led l) : sumE [] l = l := (led_is h Led.nil fun q bs => by show _ = 0 + _; omega).symm
theorem leds_two {w : World} {b : Nat} {va vb : Value} {x y : List Ety} (h0 : w.cell? ⟨b, 0, none⟩ = some va) (h1 : w.cell? ⟨b, 1, none⟩ = some vb) (ha : IsEnts w va x) (hb : IsEnts w vb y) : IsLeds w (.slice (some ⟨b, 0, none⟩) 2 2) [x, y] :=
  ⟨_, 2, rfl, Nat.le_refl _, by decide, fun k u hk => ⟨b, 0, rfl, by
    match k, hk with
    | 0, hk => simp at hk; subst hk; exact ⟨va, ha, h0⟩
    | 1, hk => simp at hk; subst hk; exact ⟨vb, hb, h1⟩
    | k + 2, hk => simp at hk⟩⟩

end Go.Proofs.YtlofjcicpkfcdaaGreatDoor
