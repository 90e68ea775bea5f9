/- The search for a queue. -/
import Derived.Test.YteonfoaemljndaaChk
namespace Go.Proofs.Yteonfoaemljndaa
open Go.RowKit

def keyC (q : Queue) (f t : Int) : Int := orI (cmpI q.frm f) (cmpI q.to t)

theorem cmpq_any (a b f t : Int) (b1 b2 : Nat) (A : Option Addr) (n c : Nat) (w : World) (h1 : w.cell? ⟨b1, 0, none⟩ = some (.int .i64 f)) (h2 : w.cell? ⟨b2, 0, none⟩ = some (.int .i64 t)) :
    Calls Try.prog 49 #[.agg #[.int .i64 a, .int .i64 b, .slice A n c], .pointer (some ⟨b1, 0, none⟩), .pointer (some ⟨b2, 0, none⟩)] w fun e w' =>
      e = .returned (.int .i64 (orI (cmpI a f) (cmpI b t))) ∧ Below w.heap.size w w' := by
  have hb1 := World.block_lt_of_cell? w _ h1
  have hb2 := World.block_lt_of_cell? w _ h2
  simp only at hb1 hb2
  go_enter Try.func49, Try.ntmps49
  go_wp2_with (go_at_call 44; refine (order_any _ _ _ _ _ _ _).mono ?_; rintro e w' ⟨rfl, hb⟩)
  go_ret
  exact ⟨rfl, (by repeat (first | exact Below.refl _ _ | assumption | refine Below.drew ?_ | refine bel_al ?_ _ | refine bel_set ?_ (by omega) _ | refine bel_tr ?_ (by assumption)))⟩

/-- what the search has found out when it looks between lo and hi -/
def Between (l : List Queue) (f t : Int) (lo hi : Nat) : Prop := (∀ j q, l[j]? = some q → j < lo → keyC q f t < 0) ∧ (∀ j q, l[j]? = some q → hi ≤ j → 0 < keyC q f t)

set_option maxRecDepth 100000 in
set_option maxHeartbeats 1000000 in
theorem search_any (l : List Queue) (v : Value) (f t : Int) (b1 b2 : Nat) (w : World) (hl : IsQueues w v l) (hsm : l.length ≤ 1048576) (h1 : w.cell? ⟨b1, 0, none⟩ = some (.int .i64 f)) (h2 : w.cell? ⟨b2, 0, none⟩ = some (.int .i64 t))
    (R : Nat → Bool → Prop)
    (hyes : ∀ m q, l[m]? = some q → keyC q f t = 0 → R m true) (hno : ∀ m, Between l f t m m → R m false)
    (hlow : ∀ lo hi m q, Between l f t lo hi → l[m]? = some q → keyC q f t < 0 → Between l f t (m + 1) hi)
    (hhigh : ∀ lo hi m q, Between l f t lo hi → l[m]? = some q → 0 < keyC q f t → Between l f t lo m) :
    Calls Try.prog 48 #[v, .func (.func 49) #[] #[.pointer (some ⟨b1, 0, none⟩), .pointer (some ⟨b2, 0, none⟩)]] w fun e w' =>
      (∃ m ok, R m ok ∧ e = .returned (.tuple #[.int .i64 (m : Nat), .bool ok])) ∧ Below w.heap.size w w' := by
  obtain ⟨A, c, rfl, hc1, hc2, hat⟩ := hl
  have hn := len_i64 hc1 hc2
  have HL := Lib.hid hat
  have HY := Lib.hid hyes
  have HN := Lib.hid hno
  have H1 := Lib.hid hlow
  have H2 := Lib.hid hhigh
  clear hat hc1 hc2 hyes hno hlow hhigh
  go_enter Try.func48, Try.ntmps48
  go_wp2
  go_loopw [6, 7] (fun x y wr => ∃ lo hi : Nat, lo ≤ hi ∧ hi ≤ l.length ∧ x = .int .i64 lo ∧ y = .int .i64 hi ∧ Hid (Between l f t lo hi) ∧ Below w.heap.size w wr) (fun x y _ => (intOf y).toNat - (intOf x).toNat)
  case atStart => exact ⟨0, l.length, Nat.zero_le _, Nat.le_refl _, rfl, rfl, ⟨fun _ _ _ h => absurd h (by omega), fun j q h h' => absurd (List.getElem?_eq_some_iff.1 h).1 (by omega)⟩, Below.refl _ _⟩
  case round =>
    obtain ⟨lo, hi, hlh, hhn, rfl, rfl, hB, hb⟩ := hrel
    by_cases hlt : lo < hi
    · obtain ⟨m, hm⟩ : ∃ m, m = (lo + hi) / 2 := ⟨_, rfl⟩
      have hm1 : lo ≤ m := by omega
      have hm2 : m < hi := by omega
      have hme : ((lo : Int) + hi) / 2 = m := by omega
      clear hm
      have hm3 : m < l.length := by omega
      have hm4 : hi ≤ 1048576 := by omega
      obtain ⟨b, o, rfl, v, hv, c0, c1, c2⟩ := HL.out m l[m] (List.getElem?_eq_getElem (by omega))
      replace c0 := cell_stays hb c0
      replace c1 := cell_stays hb c1
      replace c2 := cell_stays hb c2
      obtain ⟨A', c', rfl, -⟩ := hv
      replace h1 := cell_stays hb h1
      replace h2 := cell_stays hb h2
      have hget := Lib.hid (List.getElem?_eq_getElem hm3)
      obtain ⟨x, hx⟩ : ∃ x, x = orI (cmpI l[m].frm f) (cmpI l[m].to t) := ⟨_, rfl⟩
      have HX : Hid (keyC l[m] f t = x) := Lib.hid hx.symm
      go_wp2_with (go_at_call 49; refine (cmpq_any _ _ f t b1 b2 _ _ _ _ h1 h2).mono ?_; rw [← hx]; rintro e w' ⟨rfl, hb2⟩; clear hx)
      · rename_i h0
        go_ret2
        exact ⟨⟨m, true, HY.out m _ hget.out (by rw [HX.out]; simpa using h0), rfl⟩, bel_tr hb hb2⟩
      · rename_i h0 h3
        go_roundw
        case rel => exact ⟨m + 1, hi, by omega, hhn, by go_num, rfl, H1.out lo hi m _ hB hget.out (by rw [HX.out]; simpa using h3), bel_tr hb hb2⟩
        case measure => simp [intOf]; omega
      · rename_i h0 h3
        go_roundw
        case rel => exact ⟨lo, m, by omega, by omega, rfl, rfl, H2.out lo hi m _ hB hget.out (by rw [HX.out]; simp at h0; omega), bel_tr hb hb2⟩
        case measure => simp [intOf]; omega
    · obtain rfl : lo = hi := by omega
      go_wp2
      go_ret2
      exact ⟨⟨lo, false, HN.out lo hB, rfl⟩, hb⟩
end Go.Proofs.Yteonfoaemljndaa
