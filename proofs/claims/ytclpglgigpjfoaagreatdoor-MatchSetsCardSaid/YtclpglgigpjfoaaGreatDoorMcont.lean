/- slices.IndexFunc and slices.ContainsFunc at matches and variables, at whatever predicate. -/
import Derived.Test.YtclpglgigpjfoaaGreatDoorKown
import Derived.Test.YtclpglgigpjfoaaGreatDoorMparts
namespace Go.Proofs.YtclpglgigpjfoaaGreatDoor
open Go.RowKit

/-- the first place where p holds, or -1 -/
def firstI {α : Type} (p : α → Bool) (l : List α) : Int := if l.any p = true then (l.findIdx p : Int) else -1
theorem firstI_at {α : Type} {p : α → Bool} {l : List α} {k : Nat} {x : α} (h : l[k]? = some x) (hp : p x = true) (hno : ∀ (j : Nat) (y : α), l[j]? = some y → j < k → p y = false) : firstI p l = k := by
  unfold firstI
  obtain ⟨hk, rfl⟩ := List.getElem?_eq_some_iff.1 h
  rw [if_pos (List.any_eq_true.2 ⟨_, List.getElem_mem hk, hp⟩)]
  congr 1
  rw [List.findIdx_eq hk]
  exact ⟨hp, fun j hj => hno j _ (List.getElem?_eq_getElem (by omega)) hj⟩
theorem firstI_none {α : Type} {p : α → Bool} {l : List α} (hno : ∀ (j : Nat) (y : α), l[j]? = some y → p y = false) : firstI p l = -1 := by
  unfold firstI
  rw [if_neg]
  rw [Bool.not_eq_true, List.any_eq_false]
  intro x hx
  obtain ⟨j, hj⟩ := List.mem_iff_getElem?.1 hx
  simpa using hno j x hj
theorem firstI_ge {α : Type} (p : α → Bool) (l : List α) : decide (0 ≤ firstI p l) = l.any p := by
  unfold firstI
  cases h : l.any p with
  | true => rw [if_pos rfl]; simp
  | false => rw [if_neg (by simp)]; rfl
set_option maxRecDepth 100000 in
set_option maxHeartbeats 1000000 in
theorem indexMats_any (g : FuncId) (caps : List Value) (p : (List Bnd) → Bool) (l : List (List Bnd)) (v : Value) (w : World) (hl : IsMats w v l) (eg : ∀ args W, (callFunc g args).run Tryz.prog W = .ok (.enter g args) W)
    (hp : ∀ (W : World) (x : (List Bnd)) (u : Value), Below w.heap.size w W → x ∈ l → IsBnds W u x → Calls Tryz.prog g (matV u :: caps).toArray W fun e W' => e = .returned (.bool (p x)) ∧ Below W.heap.size W W') :
    Calls Tryz.prog 74 #[v, .func (.func g) #[] caps.toArray] w fun e w' => e = .returned (.int .i64 (firstI p l)) ∧ Below w.heap.size w w' := by
  obtain ⟨A, c, rfl, h1, h2, hat⟩ := hl
  have hn := len_i64 h1 h2
  have HL := Lib.hid hat
  have HP := Lib.hid hp
  clear hat h1 h2 hp
  go_enter Tryz.func74, Tryz.ntmps74
  go_wp2_with fail
  go_loopw [8] (fun i wr => ∃ k : Nat, k ≤ l.length ∧ i = .int .i64 k ∧ Hid (∀ (j : Nat) (y : (List Bnd)), l[j]? = some y → j < k → p y = false) ∧ Below w.heap.size w wr) (fun i _ => l.length - (intOf i).toNat)
  case atStart => exact ⟨0, Nat.zero_le _, rfl, fun _ _ _ h => absurd h (by omega), Below.refl _ _⟩
  case round =>
    obtain ⟨k, hk, rfl, hi, hb⟩ := hrel
    by_cases hlt : k < l.length
    · obtain ⟨b, o, rfl, u, hu, c0⟩ := HL.out k l[k] (List.getElem?_eq_getElem hlt)
      simp only [Nat.mul_one] at c0
      replace c0 := cell_stays hb c0
      have hu' := hu.stays bndAt_stays hb
      have hget := Lib.hid (List.getElem?_eq_getElem hlt)
      have hmem : Hid (l[k] ∈ l) := Lib.hid (List.getElem_mem hlt)
      obtain ⟨x, hx⟩ : ∃ x, x = l[k] := ⟨_, rfl⟩
      rw [← hx] at hget hmem hu hu' 
      have HC := Lib.hid (HP.out wr x u hb hmem.out hu')
      obtain ⟨A', c', rfl, -⟩ := hu
      try simp only [entV, chgV, matV] at HC
      clear hx hu'
      have hk' : (k : Int) < (l.length : Int) := by omega
      obtain ⟨bb, hbb⟩ : ∃ bb, p x = bb := ⟨_, rfl⟩
      have HB := Lib.hid hbb
      clear hbb
      cases bb with
      | true =>
        go_wp2_with fail
        refine HC.out.mono ?_
        rw [HB.out]
        rintro e w' ⟨rfl, hb2⟩
        go_wp2_with fail
        go_ret
        rw [firstI_at hget.out HB.out hi.out]
        exact ⟨rfl, bel_tr hb hb2⟩
      | false =>
        go_wp2_with fail
        refine HC.out.mono ?_
        rw [HB.out]
        rintro e w' ⟨rfl, hb2⟩
        go_wp2_with fail
        go_roundw
        case rel =>
          refine ⟨k + 1, by omega, by go_num, ?_, bel_tr hb hb2⟩
          intro j y hj hjk
          rcases Nat.lt_or_eq_of_le (Nat.le_of_lt_succ hjk) with h | h
          · exact hi.out j y hj h
          · subst h; rw [hget.out] at hj; injection hj with hj; subst hj; exact HB.out
        case measure => simp [intOf]; omega
    · go_wp2_with fail
      go_ret
      rw [firstI_none (fun j y hj => hi.out j y hj (by have := (List.getElem?_eq_some_iff.1 hj).1; omega))]
      exact ⟨rfl, hb⟩

theorem containsMats_any (g : FuncId) (caps : List Value) (p : (List Bnd) → Bool) (l : List (List Bnd)) (v : Value) (w : World) (hl : IsMats w v l) (eg : ∀ args W, (callFunc g args).run Tryz.prog W = .ok (.enter g args) W)
    (hp : ∀ (W : World) (x : (List Bnd)) (u : Value), Below w.heap.size w W → x ∈ l → IsBnds W u x → Calls Tryz.prog g (matV u :: caps).toArray W fun e W' => e = .returned (.bool (p x)) ∧ Below W.heap.size W W') :
    Calls Tryz.prog 31 #[v, .func (.func g) #[] caps.toArray] w fun e w' => e = .returned (.bool (l.any p)) ∧ Below w.heap.size w w' := by
  have HP := Lib.hid hp
  have HL := Lib.hid hl
  obtain ⟨A, c, rfl, -, -, -⟩ := hl
  clear hp
  obtain ⟨r, hr⟩ : ∃ r, firstI p l = r := ⟨_, rfl⟩
  have HR := Lib.hid hr
  clear hr
  go_enter Tryz.func31, Tryz.ntmps31
  go_wp2_with (go_at_call 74; refine (indexMats_any g caps p l _ w HL.out eg HP.out).mono ?_; rw [HR.out]; rintro e w1 ⟨rfl, hb1⟩)
  go_ret
  rw [← firstI_ge, HR.out]
  exact ⟨rfl, hb1⟩
set_option maxRecDepth 100000 in
set_option maxHeartbeats 1000000 in
theorem indexNvs_any (g : FuncId) (caps : List Value) (p : Nv → Bool) (l : List Nv) (v : Value) (w : World) (hl : IsNvs w v l) (eg : ∀ args W, (callFunc g args).run Tryz.prog W = .ok (.enter g args) W)
    (hp : ∀ (W : World) (x : Nv), Below w.heap.size w W → x ∈ l → Calls Tryz.prog g (.agg #[.string x.name, .int .i64 x.ty] :: caps).toArray W fun e W' => e = .returned (.bool (p x)) ∧ Below W.heap.size W W') :
    Calls Tryz.prog 69 #[v, .func (.func g) #[] caps.toArray] w fun e w' => e = .returned (.int .i64 (firstI p l)) ∧ Below w.heap.size w w' := by
  obtain ⟨A, c, rfl, h1, h2, hat⟩ := hl
  have hn := len_i64 h1 h2
  have HL := Lib.hid hat
  have HP := Lib.hid hp
  clear hat h1 h2 hp
  go_enter Tryz.func69, Tryz.ntmps69
  go_wp2_with fail
  go_loopw [8] (fun i wr => ∃ k : Nat, k ≤ l.length ∧ i = .int .i64 k ∧ Hid (∀ (j : Nat) (y : Nv), l[j]? = some y → j < k → p y = false) ∧ Below w.heap.size w wr) (fun i _ => l.length - (intOf i).toNat)
  case atStart => exact ⟨0, Nat.zero_le _, rfl, fun _ _ _ h => absurd h (by omega), Below.refl _ _⟩
  case round =>
    obtain ⟨k, hk, rfl, hi, hb⟩ := hrel
    by_cases hlt : k < l.length
    · obtain ⟨b, o, rfl, c0, c1⟩ := HL.out k l[k] (List.getElem?_eq_getElem hlt)
      replace c0 := cell_stays hb c0
      replace c1 := cell_stays hb c1
      have hget := Lib.hid (List.getElem?_eq_getElem hlt)
      have hmem : Hid (l[k] ∈ l) := Lib.hid (List.getElem_mem hlt)
      obtain ⟨x, hx⟩ : ∃ x, x = l[k] := ⟨_, rfl⟩
      rw [← hx] at hget hmem c0 c1
      have HC := Lib.hid (HP.out wr x hb hmem.out)
      clear hx
      have hk' : (k : Int) < (l.length : Int) := by omega
      obtain ⟨bb, hbb⟩ : ∃ bb, p x = bb := ⟨_, rfl⟩
      have HB := Lib.hid hbb
      clear hbb
      cases bb with
      | true =>
        go_wp2_with fail
        refine HC.out.mono ?_
        rw [HB.out]
        rintro e w' ⟨rfl, hb2⟩
        go_wp2_with fail
        go_ret
        rw [firstI_at hget.out HB.out hi.out]
        exact ⟨rfl, bel_tr hb hb2⟩
      | false =>
        go_wp2_with fail
        refine HC.out.mono ?_
        rw [HB.out]
        rintro e w' ⟨rfl, hb2⟩
        go_wp2_with fail
        go_roundw
        case rel =>
          refine ⟨k + 1, by omega, by go_num, ?_, bel_tr hb hb2⟩
          intro j y hj hjk
          rcases Nat.lt_or_eq_of_le (Nat.le_of_lt_succ hjk) with h | h
          · exact hi.out j y hj h
          · subst h; rw [hget.out] at hj; injection hj with hj; subst hj; exact HB.out
        case measure => simp [intOf]; omega
    · go_wp2_with fail
      go_ret
      rw [firstI_none (fun j y hj => hi.out j y hj (by have := (List.getElem?_eq_some_iff.1 hj).1; omega))]
      exact ⟨rfl, hb⟩

theorem containsNvs_any (g : FuncId) (caps : List Value) (p : Nv → Bool) (l : List Nv) (v : Value) (w : World) (hl : IsNvs w v l) (eg : ∀ args W, (callFunc g args).run Tryz.prog W = .ok (.enter g args) W)
    (hp : ∀ (W : World) (x : Nv), Below w.heap.size w W → x ∈ l → Calls Tryz.prog g (.agg #[.string x.name, .int .i64 x.ty] :: caps).toArray W fun e W' => e = .returned (.bool (p x)) ∧ Below W.heap.size W W') :
    Calls Tryz.prog 25 #[v, .func (.func g) #[] caps.toArray] w fun e w' => e = .returned (.bool (l.any p)) ∧ Below w.heap.size w w' := by
  have HP := Lib.hid hp
  have HL := Lib.hid hl
  obtain ⟨A, c, rfl, -, -, -⟩ := hl
  clear hp
  obtain ⟨r, hr⟩ : ∃ r, firstI p l = r := ⟨_, rfl⟩
  have HR := Lib.hid hr
  clear hr
  go_enter Tryz.func25, Tryz.ntmps25
  go_wp2_with (go_at_call 69; refine (indexNvs_any g caps p l _ w HL.out eg HP.out).mono ?_; rw [HR.out]; rintro e w1 ⟨rfl, hb1⟩)
  go_ret
  rw [← firstI_ge, HR.out]
  exact ⟨rfl, hb1⟩
end Go.Proofs.YtclpglgigpjfoaaGreatDoor
