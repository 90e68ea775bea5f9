/- Before, as the program does it. -/
import Derived.Test.YteonfoaemljndaaBcast
namespace Go.Proofs.Yteonfoaemljndaa
open Go.RowKit

def isBar (x : Item) : Bool := x.kind == 2
def barIdx (xs : List Item) : Option Nat := xs.findIdx? isBar
def barI (xs : List Item) : Int := match barIdx xs with | some k => (k : Int) | none => -1
theorem barIdx_some {xs : List Item} {k : Nat} {x : Item} (h : xs[k]? = some x) (hx : isBar x = true) (hb : ∀ (j : Nat) (y : Item), xs[j]? = some y → j < k → isBar y = false) : barIdx xs = some k := by
  obtain ⟨hk, rfl⟩ := List.getElem?_eq_some_iff.1 h
  unfold barIdx
  rw [List.findIdx?_eq_some_iff_getElem]
  exact ⟨hk, hx, fun j hj => by rw [hb j _ (List.getElem?_eq_getElem (by omega)) hj]; simp⟩
theorem barIdx_none {xs : List Item} (hb : ∀ (j : Nat) (y : Item), xs[j]? = some y → isBar y = false) : barIdx xs = none := by
  unfold barIdx
  rw [List.findIdx?_eq_none_iff]
  intro x hx
  obtain ⟨j, hj⟩ := List.mem_iff_getElem?.1 hx
  exact hb j x hj
theorem barIdx_get {xs : List Item} {k : Nat} (h : barIdx xs = some k) : ∃ x, xs[k]? = some x ∧ isBar x = true := by
  unfold barIdx at h
  rw [List.findIdx?_eq_some_iff_getElem] at h
  obtain ⟨hk, h1, _⟩ := h
  exact ⟨_, List.getElem?_eq_getElem hk, h1⟩
theorem barI_some {xs : List Item} {k : Nat} (h : barIdx xs = some k) : (k : Int) = barI xs := by unfold barI; rw [h]
theorem barI_none {xs : List Item} (h : barIdx xs = none) : -1 = barI xs := by unfold barI; rw [h]

theorem isBar_any (x : Item) (A : Option Addr) (c : Nat) (w : World) :
    Calls Try.prog 47 #[itemV x (.slice A x.values.length c)] w fun e w' => e = .returned (.bool (isBar x)) ∧ Below w.heap.size w w' := by
  unfold itemV isBar
  go_enter Try.func47, Try.ntmps47
  go_wp2
  go_ret
  exact ⟨rfl, (by repeat (first | exact Below.refl _ _ | assumption | refine Below.drew ?_ | refine bel_al ?_ _ | refine bel_set ?_ (by omega) _ | refine bel_tr ?_ (by assumption)))⟩

set_option maxRecDepth 100000 in
set_option maxHeartbeats 1000000 in
theorem indexBar_any (l : List Item) (v : Value) (w : World) (hl : IsItems w v l) :
    Calls Try.prog 46 #[v, .func (.func 47) #[] #[]] w fun e w' => e = .returned (.int .i64 (barI l)) ∧ Below w.heap.size w w' := by
  obtain ⟨A, c, rfl, h1, h2, hat⟩ := hl
  have hn := len_i64 h1 h2
  have HL := Lib.hid hat
  clear hat h1 h2
  go_enter Try.func46, Try.ntmps46
  go_wp2
  go_loopw [8] (fun i wr => ∃ k : Nat, k ≤ l.length ∧ i = .int .i64 k ∧ Hid (∀ (j : Nat) (y : Item), l[j]? = some y → j < k → isBar y = false) ∧ Below w.heap.size w wr) (fun i _ => l.length - (intOf i).toNat)
  case atStart => exact ⟨0, Nat.zero_le _, rfl, fun _ _ _ h => absurd h (by omega), Below.refl _ _⟩
  case round =>
    obtain ⟨k, hk, rfl, hi, hb⟩ := hrel
    by_cases hlt : k < l.length
    · obtain ⟨b, o, rfl, v, hv, c0, c1, c2, c3, c4, c5, c6⟩ := HL.out k l[k] (List.getElem?_eq_getElem hlt)
      replace c0 := cell_stays hb c0
      replace c1 := cell_stays hb c1
      replace c2 := cell_stays hb c2
      replace c3 := cell_stays hb c3
      replace c4 := cell_stays hb c4
      replace c5 := cell_stays hb c5
      replace c6 := cell_stays hb c6
      obtain ⟨A', c', rfl, -, -, -⟩ := hv
      have hget := Lib.hid (List.getElem?_eq_getElem hlt)
      obtain ⟨x, hx⟩ : ∃ x, x = l[k] := ⟨_, rfl⟩
      rw [← hx] at c0 c1 c2 c3 c4 c5 c6 hget
      clear hx
      have hk' : (k : Int) < (l.length : Int) := by omega
      obtain ⟨bb, hbb⟩ : ∃ bb, isBar x = bb := ⟨_, rfl⟩
      have HB := Lib.hid hbb
      cases bb with
      | true =>
        go_wp2_with (go_at_call 47; refine (isBar_any x A' c' _).mono ?_; rw [hbb]; rintro e w' ⟨rfl, hb2⟩; clear hbb)
        go_ret
        exact ⟨ret_i (barI_some (barIdx_some hget.out HB.out hi)), bel_tr hb hb2⟩
      | false =>
        go_wp2_with (go_at_call 47; refine (isBar_any x A' c' _).mono ?_; rw [hbb]; rintro e w' ⟨rfl, hb2⟩; clear hbb)
        go_roundw
        case rel =>
          refine ⟨k + 1, by omega, by go_num, ?_, bel_tr hb hb2⟩
          intro j y hj hjk
          rcases Nat.lt_or_eq_of_le (Nat.le_of_lt_succ hjk) with h | h
          · exact hi j y hj h
          · subst h; rw [hget.out] at hj; injection hj with hj; subst hj; exact HB.out
        case measure => simp [intOf]; omega
    · go_wp2
      go_ret
      exact ⟨ret_i (barI_none (barIdx_none fun j p hj => hi j p hj (by have := (List.getElem?_eq_some_iff.1 hj).1; omega))), hb⟩

def beforeR (l : List Queue) (f t : Int) : List Item × Int × Int :=
  if (foundR l f t).2 = 0 then (match barIdx (headQ l (foundR l f t).1.toNat) with
    | some k => ((headQ l (foundR l f t).1.toNat).take k, (match (headQ l (foundR l f t).1.toNat)[k]? with | some x => x.number | none => 0), 0)
    | none => (headQ l (foundR l f t).1.toNat, 0, 0))
  else ([], 0, (foundR l f t).2)
theorem beforeR_no {l : List Queue} {f t : Int} (h : (foundR l f t).2 ≠ 0) : beforeR l f t = ([], 0, (foundR l f t).2) := by unfold beforeR; rw [if_neg h]
theorem beforeR_none {l : List Queue} {f t : Int} {i : Nat} {q : Queue} (hf : foundR l f t = ((i : Int), 0)) (hq : l[i]? = some q) (hb : barIdx q.items = none) : beforeR l f t = (q.items, 0, 0) := by
  unfold beforeR; rw [hf]; simp [headQ_eq hq, hb]
theorem beforeR_some {l : List Queue} {f t : Int} {i k : Nat} {q : Queue} {x : Item} (hf : foundR l f t = ((i : Int), 0)) (hq : l[i]? = some q) (hb : barIdx q.items = some k) (hx : q.items[k]? = some x) : beforeR l f t = (q.items.take k, x.number, 0) := by
  unfold beforeR; rw [hf]; simp [headQ_eq hq, hb, hx]

def BeforeRet (w : World) (r : List Item × Int × Int) (e : Ending) (W : World) : Prop := ∃ v, e = .returned (.tuple #[v, .int .i64 r.2.1, .int .i64 r.2.2]) ∧ IsItems W v r.1 ∧ Below w.heap.size w W

/-- the first k elements of a row -/
theorem take_items {W : World} {A : Option Addr} {n c k : Nat} {xs : List Item} (h : IsItems W (.slice A n c) xs) (hk : k ≤ n) : IsItems W (.slice A k k) (xs.take k) := by
  obtain ⟨A', c', hv, h1, h2, h3⟩ := h
  injection hv with e1 e2 e3
  subst e1 e2 e3
  refine ⟨A, k, by rw [List.length_take, Nat.min_eq_left hk], by rw [List.length_take]; omega, by omega, fun j y hj => ?_⟩
  rw [List.getElem?_take] at hj
  split at hj
  · exact h3 j y hj
  · cases hj

set_option maxRecDepth 100000 in
set_option maxHeartbeats 1000000 in
theorem before_any (l : List Queue) (v : Value) (f t : Int) (w : World) (hl : IsQueues w v l) (hsm : l.length ≤ 1048576) (hit : ∀ q ∈ l, q.items.length ≤ 1048576) :
    Calls Try.prog 28 #[v, .int .i64 f, .int .i64 t] w (BeforeRet w (beforeR l f t)) := by
  have HL := Lib.hid hl
  have HIT := Lib.hid hit
  clear hit
  obtain ⟨A, c, rfl, -⟩ := hl
  by_cases hf : (foundR l f t).2 = 0
  · obtain ⟨i, q, hfi, hc0, hfq, hq⟩ := found_ok hf
    have HF := Lib.hid hfi
    have HQ := Lib.hid hq
    have hil := (List.getElem?_eq_some_iff.1 hq).1
    have hil' : (i : Int) < (l.length : Int) := by omega
    have hqi := HIT.out q (List.mem_of_getElem? hq)
    clear hf hfi hc0 hfq hq
    obtain ⟨b, o, u, rfl, -, hu, c0, c1, c2⟩ := cell_of_queues HL.out HQ.out
    obtain ⟨Au, cu, rfl, -⟩ := id hu
    obtain ⟨cs, hm, hs, -⟩ := means_of_sl itemAt_movable hu
    have HM := Lib.hid hm
    have HS := Lib.hid hs
    clear hm hs hu
    obtain ⟨y, hy⟩ : ∃ y, y = barI q.items := ⟨_, rfl⟩
    cases hbar : barIdx q.items with
    | none =>
      have HR := Lib.hid (beforeR_none HF.out HQ.out hbar)
      have hy2 : y = -1 := hy.trans (barI_none hbar).symm
      subst hy2
      clear hbar
      go_enter Try.func28, Try.ntmps28
      go_wp2_with (first
        | (go_at_call 36; refine (find_at HL.out hsm HF.out).mono ?_; rintro e w1 ⟨rfl, hb1⟩; replace c0 := cell_stays hb1 c0; replace c1 := cell_stays hb1 c1; replace c2 := cell_stays hb1 c2)
        | (go_at_call 45; refine (cloneItems Au _ cu cs _ (HS.out.stays hb1) hqi).mono ?_; rintro e w2 ⟨v2, rfl, hown2, hb2⟩; have HO2 := Lib.hid hown2; have HI2 := Lib.hid (sl_of_means HM.out (bel_tr hb1 hb2) hown2); obtain ⟨A2, c2', rfl, hc2a, hc2b, -⟩ := ownsRow_src hown2 HM.out.2.1; clear hown2)
        | (go_at_call 46; refine (indexBar_any q.items _ _ HI2.out).mono ?_; rw [← hy]; rintro e w3 ⟨rfl, hb3⟩; clear hy))
      go_ret3
      rw [HR.out]
      exact ⟨_, rfl, HI2.out.stays itemAt_stays hb3, bel_tr (bel_tr hb1 hb2) hb3⟩
    | some k =>
      obtain ⟨x, hx, hxb⟩ := barIdx_get hbar
      have HR := Lib.hid (beforeR_some HF.out HQ.out hbar hx)
      have hy2 : y = (k : Int) := hy.trans (barI_some hbar).symm
      subst hy2
      have hkl := (List.getElem?_eq_some_iff.1 hx).1
      have HX := Lib.hid hx
      clear hbar hx hxb
      go_enter Try.func28, Try.ntmps28
      go_wp2_with (first
        | (go_at_call 36; refine (find_at HL.out hsm HF.out).mono ?_; rintro e w1 ⟨rfl, hb1⟩; replace c0 := cell_stays hb1 c0; replace c1 := cell_stays hb1 c1; replace c2 := cell_stays hb1 c2)
        | (go_at_call 45; refine (cloneItems Au _ cu cs _ (HS.out.stays hb1) hqi).mono ?_; rintro e w2 ⟨v2, rfl, hown2, hb2⟩; have HO2 := Lib.hid hown2; have HI2 := Lib.hid (sl_of_means HM.out (bel_tr hb1 hb2) hown2); obtain ⟨A2, c2', rfl, hc2a, hc2b, -⟩ := ownsRow_src hown2 HM.out.2.1; clear hown2)
        | (go_at_call 46; refine (indexBar_any q.items _ _ HI2.out).mono ?_; rw [← hy]; rintro e w3 ⟨rfl, hb3⟩; clear hy))
      have hi3 := HI2.out.stays itemAt_stays hb3
      have HI3 := Lib.hid hi3
      obtain ⟨_, _, hv3, -, -, hat⟩ := hi3
      injection hv3 with e1 e2 e3
      subst e1 e3
      obtain ⟨b2, o2, rfl, v2, hv2, d0, d1, d2, d3, d4, d5, d6⟩ := hat k x HX.out
      have hk1 : (k : Int) < (q.items.length : Int) := by omega
      have hk2 : (k : Int) ≤ (c2' : Int) := by omega
      clear hat e2 hv2
      refine wp_region_F (fun W => W.cell? ⟨b2, o2 + k * 7 + 6, none⟩ = some (.int .i64 x.number)) (by repeat (first | exact grows_cell _ _ _ | exact grows_true | refine grows_and ?_ ?_)) (by kernel_rfl) (by kernel_rfl) ?hF ?_; (case hF => (first | exact ⟨‹_›, ‹_›⟩ | (go_simp; done) | (simp [*]; done))); intro hne hxx; have hG : Hid (Grows (fun W => W.cell? ⟨b2, o2 + k * 7 + 6, none⟩ = some (.int .i64 x.number))) := (by repeat (first | exact grows_cell _ _ _ | exact grows_true | refine grows_and ?_ ?_)); (repeat (go_big_quiet_step (fail))); clear hG hxx hne; refine wpQuiet_nil ?_; rintro _ ⟨⟨w', hb', hF'⟩, rfl⟩
      clear hF'
      go_wp2
      go_ret3
      rw [HR.out]
      exact ⟨_, rfl, (take_items HI3.out (by omega)).stays itemAt_stays hb', bel_tr (bel_tr (bel_tr hb1 hb2) hb3) hb'⟩
  · obtain ⟨y, hy⟩ : ∃ y, y = (foundR l f t).2 := ⟨_, rfl⟩
    have hfy : foundR l f t = (0, y) := Prod.ext (found_no hf) hy.symm
    have HR := Lib.hid (beforeR_no hf)
    have g2 : (y != 0) = true := by rw [hy]; simpa using hf
    have HF := Lib.hid hfy
    have HY := Lib.hid hy
    clear hy hfy hf
    go_enter Try.func28, Try.ntmps28
    go_wp2_with (go_at_call 36; refine (find_at HL.out hsm HF.out).mono ?_; rintro e w1 ⟨rfl, hb1⟩)
    go_ret3
    rw [HR.out, ← HY.out]
    exact ⟨_, rfl, Sl.nil _ _ _ _ _ (Nat.zero_le _), hb1⟩
end Go.Proofs.Yteonfoaemljndaa
