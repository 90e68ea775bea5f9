/- The error of the first item with one, as the program and as the reference find it. -/
import Derived.Test.YteonfoaemljndaaItm
namespace Go.Proofs.Yteonfoaemljndaa
open Go.RowKit

theorem itemsErr_step (l : List Item) (k : Nat) (x : Item) (h : l[k]? = some x) : itemsErr (l.drop k) = if itemErr x = 0 then itemsErr (l.drop (k + 1)) else itemErr x := by
  obtain ⟨hk, rfl⟩ := List.getElem?_eq_some_iff.1 h
  rw [List.drop_eq_getElem_cons hk, itemsErr]
theorem itemsErr_go (l : List Item) (k : Nat) (x : Item) (h : l[k]? = some x) (h0 : itemErr x = 0) (hi : itemsErr (l.drop k) = itemsErr l) : itemsErr (l.drop (k + 1)) = itemsErr l := by
  rw [← hi, itemsErr_step l k x h, if_pos h0]
theorem itemsErr_stop (l : List Item) (k : Nat) (x : Item) (h : l[k]? = some x) (h0 : itemErr x ≠ 0) (hi : itemsErr (l.drop k) = itemsErr l) : itemErr x = itemsErr l := by
  rw [← hi, itemsErr_step l k x h, if_neg h0]
theorem itemsErr_end (l : List Item) (k : Nat) (h : l.length ≤ k) (hi : itemsErr (l.drop k) = itemsErr l) : 0 = itemsErr l := by
  rw [← hi, List.drop_of_length_le h]; rfl

theorem len_i64 {n c : Nat} (h : n ≤ c) (hc : c ≤ maxLen) : (n : Int) ≤ 9223372036854775807 := by unfold maxLen at hc; omega

theorem items_any (l : List Item) (v : Value) (w : World) (hl : IsItems w v l) :
    Calls Try.prog 37 #[v] w fun e w' => e = .returned (.int .i64 (itemsErr l)) ∧ Below w.heap.size w w' := by
  obtain ⟨A, c, rfl, h1, h2, hat⟩ := hl
  have hn := len_i64 h1 h2
  have HL := Lib.hid hat
  clear hat h1 h2
  go_enter Try.func37, Try.ntmps37
  go_wp2
  go_loopw [8] (fun i wr => ∃ k : Nat, k ≤ l.length ∧ i = .int .i64 k ∧ Hid (itemsErr (l.drop k) = itemsErr l) ∧ Below w.heap.size w wr) (fun i _ => l.length - (intOf i).toNat)
  case atStart => exact ⟨0, Nat.zero_le _, rfl, rfl, Below.refl _ _⟩
  case round =>
    obtain ⟨k, hk, rfl, hi, hb⟩ := hrel
    by_cases hlt : k < l.length
    · obtain ⟨b, o, rfl, v, hv, c0, c1, c2, c3, c4, c5, c6⟩ := HL.out k l[k] (List.getElem?_eq_getElem hlt)
      replace c0 := cell_stays hb c0
      replace c1 := cell_stays hb c1
      replace c2 := cell_stays hb c2
      replace c3 := cell_stays hb c3
      replace c4 := cell_stays hb c4
      replace c5 := cell_stays hb c5
      replace c6 := cell_stays hb c6
      obtain ⟨A', c', rfl, -, -, -⟩ := hv
      go_wp2_with (go_at_call 42; refine (item_any l[k] A' c' _).mono ?_; rintro e w' ⟨rfl, hb2⟩)
      · rename_i hne
        go_ret
        exact ⟨congrArg (fun n => Ending.returned (.int .i64 n)) (itemsErr_stop l k _ (List.getElem?_eq_getElem hlt) (by simpa using hne) hi), (by repeat (first | exact Below.refl _ _ | assumption | refine Below.drew ?_ | refine bel_al ?_ _ | refine bel_set ?_ (by omega) _ | refine bel_tr ?_ (by assumption)))⟩
      · rename_i hne
        go_roundw
        case rel => exact ⟨k + 1, by omega, by go_num, itemsErr_go l k _ (List.getElem?_eq_getElem hlt) (by simpa using hne) hi, (by repeat (first | exact Below.refl _ _ | assumption | refine Below.drew ?_ | refine bel_al ?_ _ | refine bel_set ?_ (by omega) _ | refine bel_tr ?_ (by assumption)))⟩
        case measure => simp [intOf]; omega
    · go_wp2
      go_ret
      exact ⟨congrArg (fun n => Ending.returned (.int .i64 n)) (itemsErr_end l k (by omega) hi), hb⟩
end Go.Proofs.Yteonfoaemljndaa
