/- Which queue is meant: the program's search and the reference's. -/
import Derived.Test.YteonfoaemljndaaSrch
import Derived.Test.YteonfoaemljndaaRchk
namespace Go.Proofs.Yteonfoaemljndaa
open Go.RowKit

theorem keyC_lt {q : Queue} {f t : Int} : keyC q f t < 0 ↔ (q.frm < f ∨ q.frm = f ∧ q.to < t) := by
  unfold keyC orI cmpI
  (repeat' split) <;> omega
theorem keyC_gt {q : Queue} {f t : Int} : 0 < keyC q f t ↔ (f < q.frm ∨ q.frm = f ∧ t < q.to) := by
  unfold keyC orI cmpI
  (repeat' split) <;> omega
theorem keyC_eq {q : Queue} {f t : Int} : keyC q f t = 0 ↔ (q.frm = f ∧ q.to = t) := by
  unfold keyC orI cmpI
  (repeat' split) <;> omega

def isQ (f t : Int) (q : Queue) : Bool := q.frm == f && q.to == t
def findQ (l : List Queue) (f t : Int) : Option Nat := l.findIdx? (isQ f t)
def foundR (l : List Queue) (f t : Int) : Int × Int :=
  if checkErr l = 0 then (match findQ l f t with | some i => ((i : Int), 0) | none => (0, 6)) else (0, checkErr l)
def findR (l : List Queue) (f t : Int) : Int := match findQ l f t with | some i => (i : Int) | none => -1

theorem isQ_iff {f t : Int} {q : Queue} : isQ f t q = true ↔ (q.frm = f ∧ q.to = t) := by simp [isQ]

theorem findQ_some {l : List Queue} {f t : Int} {m : Nat} {q : Queue} (h : l[m]? = some q) (hq : q.frm = f ∧ q.to = t) (hb : ∀ (j : Nat) (p : Queue), l[j]? = some p → j < m → ¬ (p.frm = f ∧ p.to = t)) : findQ l f t = some m := by
  obtain ⟨hm, rfl⟩ := List.getElem?_eq_some_iff.1 h
  unfold findQ
  rw [List.findIdx?_eq_some_iff_getElem]
  exact ⟨hm, isQ_iff.2 hq, fun j hj => by have := hb j _ (List.getElem?_eq_getElem (by omega)) hj; rw [← isQ_iff] at this; simpa using this⟩
theorem findQ_none {l : List Queue} {f t : Int} (hb : ∀ (j : Nat) (p : Queue), l[j]? = some p → ¬ (p.frm = f ∧ p.to = t)) : findQ l f t = none := by
  unfold findQ
  rw [List.findIdx?_eq_none_iff]
  intro x hx
  obtain ⟨j, hj⟩ := List.mem_iff_getElem?.1 hx
  have := hb j x hj
  rw [← isQ_iff] at this
  simpa using this
theorem findQ_lt {l : List Queue} {f t : Int} {m : Nat} (h : findQ l f t = some m) : ∃ q, l[m]? = some q ∧ q.frm = f ∧ q.to = t := by
  unfold findQ at h
  rw [List.findIdx?_eq_some_iff_getElem] at h
  obtain ⟨hm, h1, _⟩ := h
  exact ⟨_, List.getElem?_eq_getElem hm, (isQ_iff.1 h1).1, (isQ_iff.1 h1).2⟩

theorem checkFrom_sorted : ∀ (l : List Queue) (p : Option Queue), checkFrom p l = 0 → (∀ a, p = some a → ∀ x ∈ l, ltQ a x) ∧ l.Pairwise ltQ ∧ ∀ x ∈ l, badQ x = false ∧ (x.items.length : Int) ≤ 4096 ∧ itemsErr x.items = 0 := by
  intro l
  induction l with
  | nil => intro p _; simp
  | cons q l ih =>
    intro p h
    unfold checkFrom at h
    by_cases h0 : qErr p q = 0
    · rw [if_pos h0] at h
      obtain ⟨h1, h2, h3⟩ := ih _ h
      have hq := h1 q rfl
      unfold qErr at h0
      by_cases hb : badQ q = true
      · rw [if_pos hb] at h0; omega
      rw [if_neg hb] at h0
      by_cases ha : afterQ p q = false
      · rw [if_pos ha] at h0; omega
      rw [if_neg ha] at h0
      by_cases hn : 4096 < (q.items.length : Int)
      · rw [if_pos hn] at h0; omega
      rw [if_neg hn] at h0
      refine ⟨?_, List.pairwise_cons.2 ⟨hq, h2⟩, ?_⟩
      · intro a hp x hx
        subst hp
        have haq : ltQ a q := by simpa [afterQ] using ha
        rcases List.mem_cons.1 hx with rfl | hx
        · exact haq
        · have := hq x hx
          unfold ltQ at *
          omega
      · intro x hx
        rcases List.mem_cons.1 hx with rfl | hx
        · exact ⟨by simpa using hb, by omega, h0⟩
        · exact h3 x hx
    · rw [if_neg h0] at h
      exact absurd h h0

theorem sorted_lt {l : List Queue} (h : checkErr l = 0) {i j : Nat} {p q : Queue} (hi : l[i]? = some p) (hj : l[j]? = some q) (hij : i < j) : ltQ p q := by
  have hs := (checkFrom_sorted l none h).2.1
  obtain ⟨h1, rfl⟩ := List.getElem?_eq_some_iff.1 hi
  obtain ⟨h2, rfl⟩ := List.getElem?_eq_some_iff.1 hj
  exact List.pairwise_iff_getElem.1 hs i j h1 h2 hij

def SearchR (l : List Queue) (f t : Int) (m : Nat) (ok : Bool) : Prop := findQ l f t = if ok then some m else none

theorem search_sorted (l : List Queue) (v : Value) (f t : Int) (b1 b2 : Nat) (w : World) (hl : IsQueues w v l) (hsm : l.length ≤ 1048576) (hc : checkErr l = 0)
    (h1 : w.cell? ⟨b1, 0, none⟩ = some (.int .i64 f)) (h2 : w.cell? ⟨b2, 0, none⟩ = some (.int .i64 t)) :
    Calls Try.prog 48 #[v, .func (.func 49) #[] #[.pointer (some ⟨b1, 0, none⟩), .pointer (some ⟨b2, 0, none⟩)]] w fun e w' =>
      (∃ m ok, SearchR l f t m ok ∧ e = .returned (.tuple #[.int .i64 (m : Nat), .bool ok])) ∧ Below w.heap.size w w' := by
  refine search_any l v f t b1 b2 w hl hsm h1 h2 (SearchR l f t) ?_ ?_ ?_ ?_
  · intro m q hm hq
    refine findQ_some hm (keyC_eq.1 hq) ?_
    intro j p hj hjm hp
    have := sorted_lt hc hj hm hjm
    have := keyC_eq.1 hq
    unfold ltQ at *
    omega
  · intro m ⟨ha, hb⟩
    refine findQ_none ?_
    intro j p hj hp
    have h3 := keyC_eq.2 hp
    rcases Nat.lt_or_ge j m with h | h
    · have := ha j p hj h; omega
    · have := hb j p hj h; omega
  · intro lo hi m q ⟨ha, hb⟩ hm hq
    refine ⟨fun j p hj hjm => ?_, hb⟩
    rcases Nat.lt_or_eq_of_le (Nat.le_of_lt_succ hjm) with h | h
    · have h3 := sorted_lt hc hj hm h
      have h4 := keyC_lt.1 hq
      refine keyC_lt.2 ?_
      unfold ltQ at h3
      omega
    · subst h
      rw [hm] at hj
      injection hj with hj
      subst hj
      exact hq
  · intro lo hi m q ⟨ha, hb⟩ hm hq
    refine ⟨ha, fun j p hj hjm => ?_⟩
    rcases Nat.lt_or_eq_of_le hjm with h | h
    · have h3 := sorted_lt hc hm hj h
      have h4 := keyC_gt.1 hq
      refine keyC_gt.2 ?_
      unfold ltQ at h3
      omega
    · subst h
      rw [hm] at hj
      injection hj with hj
      subst hj
      exact hq

theorem foundR_err {l : List Queue} {f t : Int} (h : checkErr l ≠ 0) : foundR l f t = (0, checkErr l) := by unfold foundR; rw [if_neg h]
theorem foundR_some {l : List Queue} {f t : Int} {m : Nat} (h : checkErr l = 0) (hm : findQ l f t = some m) : foundR l f t = ((m : Int), 0) := by unfold foundR; rw [if_pos h, hm]
theorem foundR_none {l : List Queue} {f t : Int} (h : checkErr l = 0) (hm : findQ l f t = none) : foundR l f t = (0, 6) := by unfold foundR; rw [if_pos h, hm]

def twoI (p : Int × Int) : Ending := .returned (.tuple #[.int .i64 p.1, .int .i64 p.2])

set_option maxHeartbeats 1000000 in
theorem find_any (l : List Queue) (v : Value) (f t : Int) (w : World) (hl : IsQueues w v l) (hsm : l.length ≤ 1048576) :
    Calls Try.prog 36 #[v, .int .i64 f, .int .i64 t] w fun e w' => e = twoI (foundR l f t) ∧ Below w.heap.size w w' := by
  have HL := Lib.hid hl
  obtain ⟨A, c, rfl, -⟩ := hl
  by_cases hc : checkErr l = 0
  · have HC := Lib.hid hc
    obtain ⟨x, hx⟩ : ∃ x, x = checkErr l := ⟨_, rfl⟩
    have hx0 : (x != 0) = false := by rw [hx, hc]; rfl
    clear hc
    go_enter Try.func36, Try.ntmps36
    go_wp2_with (go_at_call 19; refine (check_any l _ _ (HL.out.stays queueAt_stays (bel_al (bel_al (Below.refl _ _) _) _))).mono ?_; rw [← hx]; rintro e w1 ⟨rfl, hb1⟩; clear hx)
    have HL1 := Lib.hid (HL.out.stays queueAt_stays (bel_tr (bel_al (bel_al (Below.refl _ _) _) _) hb1))
    have c1 : w1.cell? ⟨w.heap.size, 0, none⟩ = some (.int .i64 f) := cell_stays hb1 (by go_simp)
    have c2 : w1.cell? ⟨w.heap.size + 1, 0, none⟩ = some (.int .i64 t) := cell_stays hb1 (by go_simp)
    refine (search_sorted l _ f t _ _ _ HL1.out hsm HC.out c1 c2).mono ?_
    rintro e w2 ⟨⟨m, ok, hR, rfl⟩, hb2⟩
    have HR := Lib.hid hR
    clear hR c1 c2
    cases ok
    · go_wp2
      go_ret2
      exact ⟨by rw [foundR_none HC.out HR.out]; rfl, (by repeat (first | exact Below.refl _ _ | assumption | refine Below.drew ?_ | refine bel_al ?_ _ | refine bel_set ?_ (by omega) _ | refine bel_tr ?_ (by assumption)))⟩
    · go_wp2
      go_ret2
      exact ⟨by rw [foundR_some HC.out HR.out]; rfl, (by repeat (first | exact Below.refl _ _ | assumption | refine Below.drew ?_ | refine bel_al ?_ _ | refine bel_set ?_ (by omega) _ | refine bel_tr ?_ (by assumption)))⟩
  · have HC := Lib.hid hc
    obtain ⟨x, hx⟩ : ∃ x, x = checkErr l := ⟨_, rfl⟩
    have HX := Lib.hid hx
    have hx0 : (x != 0) = true := by rw [hx]; simpa using hc
    clear hc
    go_enter Try.func36, Try.ntmps36
    go_wp2_with (go_at_call 19; refine (check_any l _ _ (HL.out.stays queueAt_stays (bel_al (bel_al (Below.refl _ _) _) _))).mono ?_; rw [← hx]; rintro e w1 ⟨rfl, hb1⟩; clear hx)
    go_ret2
    exact ⟨by rw [foundR_err HC.out, ← HX.out]; rfl, (by repeat (first | exact Below.refl _ _ | assumption | refine Below.drew ?_ | refine bel_al ?_ _ | refine bel_set ?_ (by omega) _ | refine bel_tr ?_ (by assumption)))⟩

theorem findR_some {l : List Queue} {f t : Int} {m : Nat} (hm : findQ l f t = some m) : (m : Int) = findR l f t := by unfold findR; rw [hm]
theorem findR_none {l : List Queue} {f t : Int} (hm : findQ l f t = none) : -1 = findR l f t := by unfold findR; rw [hm]

set_option maxHeartbeats 1000000 in
theorem rfind_any (l : List Queue) (v : Value) (f t : Int) (w : World) (hl : IsQueues w v l) :
    Calls Try.prog 33 #[v, .int .i64 f, .int .i64 t] w fun e w' => e = .returned (.int .i64 (findR l f t)) ∧ w = w' := by
  obtain ⟨A, c, rfl, h1, h2, hat⟩ := hl
  have hn := len_i64 h1 h2
  have HL := Lib.hid hat
  clear hat h1 h2
  go_enter Try.func33, Try.ntmps33
  go_wp2
  go_loop [7] (fun i => ∃ k : Nat, k ≤ l.length ∧ i = .int .i64 k ∧ Hid (∀ (j : Nat) (p : Queue), l[j]? = some p → j < k → ¬ (p.frm = f ∧ p.to = t))) (fun i => l.length - (intOf i).toNat)
  case atStart => exact ⟨0, Nat.zero_le _, rfl, fun _ _ _ h => absurd h (by omega)⟩
  case round =>
    obtain ⟨k, hk, rfl, hi⟩ := hrel
    by_cases hlt : k < l.length
    · obtain ⟨b, o, rfl, v, hv, c0, c1, c2⟩ := HL.out k l[k] (List.getElem?_eq_getElem hlt)
      have hget := Lib.hid (List.getElem?_eq_getElem hlt)
      obtain ⟨q, hq⟩ : ∃ q, q = l[k] := ⟨_, rfl⟩
      rw [← hq] at c0 c1 hget
      clear hq hv
      have hgo : Hid (¬ (q.frm = f ∧ q.to = t) → ∀ (j : Nat) (p : Queue), l[j]? = some p → j < k + 1 → ¬ (p.frm = f ∧ p.to = t)) := Lib.hid (fun hne j p hj hjk => by
        rcases Nat.lt_or_eq_of_le (Nat.le_of_lt_succ hjk) with h | h
        · exact hi j p hj h
        · subst h; rw [hget.out] at hj; injection hj with hj; subst hj; exact hne)
      by_cases e1 : q.frm = f
      · have g1 : (q.frm == f) = true := by simpa using e1
        by_cases e2 : q.to = t
        · have g2 : (q.to == t) = true := by simpa using e2
          have HE := Lib.hid e1
          have HE2 := Lib.hid e2
          clear e1 e2
          go_wp2
          go_ret
          exact ⟨ret_i (findR_some (findQ_some hget.out ⟨HE.out, HE2.out⟩ hi)), rfl⟩
        · have g2 : (q.to == t) = false := by simpa using e2
          have HE := Lib.hid e1
          clear e1
          go_wp2
          go_round
          case rel => exact ⟨k + 1, by omega, by go_num, hgo.out (fun h => e2 h.2)⟩
          case measure => simp [intOf]; omega
      · have g1 : (q.frm == f) = false := by simpa using e1
        go_wp2
        go_round
        case rel => exact ⟨k + 1, by omega, by go_num, hgo.out (fun h => e1 h.1)⟩
        case measure => simp [intOf]; omega
    · go_wp2
      go_ret
      exact ⟨ret_i (findR_none (findQ_none fun j p hj => hi j p hj (by have := (List.getElem?_eq_some_iff.1 hj).1; omega))), rfl⟩

theorem findR_nn {l : List Queue} {f t : Int} (h : 0 ≤ findR l f t) : findQ l f t = some (findR l f t).toNat := by
  unfold findR at *
  cases hq : findQ l f t with
  | none => rw [hq] at h; simp at h
  | some m => simp
theorem findR_neg {l : List Queue} {f t : Int} (h : ¬ 0 ≤ findR l f t) : findQ l f t = none := by
  unfold findR at *
  cases hq : findQ l f t with
  | none => rfl
  | some m => rw [hq] at h; simp at h

set_option maxHeartbeats 1000000 in
theorem rfound_any (l : List Queue) (v : Value) (f t : Int) (w : World) (hl : IsQueues w v l) :
    Calls Try.prog 39 #[v, .int .i64 f, .int .i64 t] w fun e w' => e = twoI (foundR l f t) ∧ Below w.heap.size w w' := by
  have HL := Lib.hid hl
  obtain ⟨A, c, rfl, -⟩ := hl
  obtain ⟨x, hx⟩ : ∃ x, x = checkErr l := ⟨_, rfl⟩
  obtain ⟨y, hy⟩ : ∃ y, y = findR l f t := ⟨_, rfl⟩
  have HX := Lib.hid hx
  have HY := Lib.hid hy
  by_cases h0 : (x != 0) = true
  · have Hf := Lib.hid (foundR_err (f := f) (t := t) (by rw [← hx]; simpa using h0 : checkErr l ≠ 0))
    go_enter Try.func39, Try.ntmps39
    go_wp2_with (first | (go_at_call 20; refine (rcheck_any l _ _ HL.out).mono ?_; rw [← hx]; rintro e w1 ⟨rfl, hb1⟩; clear hx) | (go_at_call 33; refine (rfind_any l _ f t _ (HL.out.stays queueAt_stays hb1)).mono ?_; rw [← hy]; rintro e w2 ⟨rfl, rfl⟩; clear hy))
    go_ret2
    exact ⟨by rw [Hf.out, ← HX.out]; rfl, hb1⟩
  · simp only [Bool.not_eq_true] at h0
    have hc : checkErr l = 0 := by rw [← hx]; simpa using h0
    by_cases h1 : 0 ≤ y
    · have Hf := Lib.hid (foundR_some hc (findR_nn (l := l) (f := f) (t := t) (by rw [← hy]; exact h1)))
      clear hc
      go_enter Try.func39, Try.ntmps39
      go_wp2_with (first | (go_at_call 20; refine (rcheck_any l _ _ HL.out).mono ?_; rw [← hx]; rintro e w1 ⟨rfl, hb1⟩; clear hx) | (go_at_call 33; refine (rfind_any l _ f t _ (HL.out.stays queueAt_stays hb1)).mono ?_; rw [← hy]; rintro e w2 ⟨rfl, rfl⟩; clear hy))
      go_ret2
      exact ⟨by rw [Hf.out, ← HY.out, Int.toNat_of_nonneg h1]; rfl, hb1⟩
    · have Hf := Lib.hid (foundR_none hc (findR_neg (l := l) (f := f) (t := t) (by rw [← hy]; exact h1)))
      clear hc
      go_enter Try.func39, Try.ntmps39
      go_wp2_with (first | (go_at_call 20; refine (rcheck_any l _ _ HL.out).mono ?_; rw [← hx]; rintro e w1 ⟨rfl, hb1⟩; clear hx) | (go_at_call 33; refine (rfind_any l _ f t _ (HL.out.stays queueAt_stays hb1)).mono ?_; rw [← hy]; rintro e w2 ⟨rfl, rfl⟩; clear hy))
      go_ret2
      exact ⟨by rw [Hf.out]; rfl, hb1⟩
end Go.Proofs.Yteonfoaemljndaa
