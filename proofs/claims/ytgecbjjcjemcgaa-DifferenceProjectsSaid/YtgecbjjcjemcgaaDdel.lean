/- slices.Delete of one integer out of a row of the call's own. -/
import Derived.Test.YtgecbjjcjemcgaaDlaw
import Derived.Deep.RegionHeld3
import Derived.Lib.SlicesDelete
import Derived.Lib.SliceRun
namespace Go.Proofs.Ytgecbjjcjemcgaa
open Go.RowKit

theorem at_apprun {P : Program} (w : World) {o : Oper} {a : Act} {K : Act → World → Prop} {Q : Exit → Act → World → Prop} (s x : Operand) (t : TypeId)
    (ho : o.op = .call { callee := .builtin .append, args := #[s, x], argTypes := #[t, t] }) (vs vx : Value) (hs : a.eval s = vs) (hx : a.eval x = vx) (v' : Value) (w' : World)
    (hr : (Builtin.append_ #[t, t] o.type #[vs, vx]).run P w = .ok v' w') (h : K (a.put o.dst v') w') : Oper.wp P o a w K Q := by
  unfold Oper.wp execOp
  simp only [ho, resolve, invoke, builtin, Sem.run_bind, Sem.run_pure, Result.andThen_ok, List.map_toArray, List.map_cons, List.map_nil, hs, hx, hr]
  exact h

theorem setRow_at {w : World} {g : Nat} {cs ds : Array Value} {t : TypeId} (h : w.heap[g]? = some (.cells cs t (0, 0))) : (w.setRow g ds).heap[g]? = some (.cells ds t (0, 0)) := by
  simp [World.setRow, Array.getElem?_modify, h]
theorem setRow_below (w : World) (g : Nat) (ds : Array Value) : Below g w (w.setRow g ds) := by
  refine ⟨rfl, rfl, rfl, by simp [World.setRow], fun b hb => ?_⟩
  simp only [World.setRow, Array.getElem?_modify]
  rw [if_neg (by omega)]

/-- what the row holds when one integer is cut out -/
theorem del_run (M : List Int) (u m : Nat) (hl : M.length = u + m + 1) (g cap : Nat) (spare : List Value) (w : World) (hg : w.heap[g]? = some (.cells (M.map (Value.int .i64) ++ spare).toArray 3 (0, 0))) (hc : u + m + 1 ≤ cap) :
    ∃ D : List Value, (Builtin.append_ #[27, 27] 27 #[.slice (some ⟨g, 0, none⟩) u cap, .slice (if cap = u + 1 then some ⟨g, 0, none⟩ else some ⟨g, u + 1, none⟩) m (cap - (u + 1))]).run Try.prog w = .ok (.slice (some ⟨g, 0, none⟩) (u + m) cap) (w.setRow g D.toArray) ∧
      (∀ (k : Nat) (x : Int), (M.eraseIdx u)[k]? = some x → D[k]? = some (.int .i64 x)) ∧ u + m < D.length := by
  obtain ⟨i0, hi0, hz0, hz1, hz2⟩ := info_parts info_int
  by_cases hcap : cap = u + 1
  · obtain rfl : m = 0 := by omega
    have h := run_append_room (P := Try.prog) w 27 27 3 i0 Try.underlying27 hi0 g u cap (M.map (Value.int .i64) ++ spare).toArray hg ⟨g, 0, none⟩ 0 0 [] (by simp) (fun j x hj => by simp at hj) (by simp) (by omega) (by simp [hz1, hl]; try omega)
    refine ⟨M.map (Value.int .i64) ++ spare, ?_, ?_, ?_⟩
    · rw [if_pos hcap, show cap - (u + 1) = 0 by omega, h]
      simp
    · intro k x hk
      rw [List.getElem?_eraseIdx] at hk
      split at hk
      · rw [List.getElem?_append_left (by simp; omega), List.getElem?_map, hk]; rfl
      · have := (List.getElem?_eq_some_iff.1 hk).1; omega
    · simp; omega
  · have h := run_append_room (P := Try.prog) w 27 27 3 i0 Try.underlying27 hi0 g u cap (M.map (Value.int .i64) ++ spare).toArray hg ⟨g, u + 1, none⟩ m (cap - (u + 1)) ((M.drop (u + 1)).map (Value.int .i64)) (by simp [hz1, hl]; try omega) (fun j x hj => ?_) (fun x hx => by obtain ⟨y, _, rfl⟩ := List.mem_map.1 hx; rfl) (by omega) (by simp [hz1, hl]; try omega)
    · rw [if_neg hcap, h]
      refine ⟨_, rfl, ?_, ?_⟩
      · intro k x hk
        rw [List.getElem?_eraseIdx] at hk
        simp only [hz1, Nat.mul_one]
        split at hk
        · rename_i hku
          rw [List.append_assoc, List.getElem?_append_left (by simp; omega), List.getElem?_take, if_pos hku, List.getElem?_append_left (by simp; omega), List.getElem?_map, hk]; rfl
        · rename_i hku
          have hkl := (List.getElem?_eq_some_iff.1 hk).1
          rw [List.append_assoc, List.getElem?_append_right (by simp; omega), List.getElem?_append_left (by simp; omega), List.getElem?_map, List.getElem?_drop]
          have e : u + 1 + (k - (List.take u (M.map (Value.int .i64) ++ spare)).length) = k + 1 := by
            rw [List.length_take, List.length_append, List.length_map]; omega
          rw [e, hk]; rfl
      · simp only [hz1, Nat.mul_one, List.length_append, List.length_take, List.length_map, List.length_drop]
        clear h hg hi0 hz0 hz1 hz2
        omega
    · rw [List.getElem?_map, List.getElem?_drop] at hj
      cases hx : M[u + 1 + j]? with
      | none => rw [hx] at hj; cases hj
      | some y =>
        rw [hx] at hj
        simp only [Option.map_some, Option.some.injEq] at hj
        subst hj
        have hlt := (List.getElem?_eq_some_iff.1 hx).1
        rw [addr_add, blk_cell hg, List.getElem?_append_left (by simp; omega), List.getElem?_map, hx]
        rfl

set_option maxRecDepth 100000 in
set_option maxHeartbeats 2000000 in
theorem delete_any (M : List Int) (u m : Nat) (hl : M.length = u + m + 1) (g cap : Nat) (spare : List Value) (w : World) (hg : w.heap[g]? = some (.cells (M.map (Value.int .i64) ++ spare).toArray 3 (0, 0))) (hc : u + m + 1 ≤ cap) (hm : cap ≤ maxLen) :
    Calls Try.prog 29 #[.slice (some ⟨g, 0, none⟩) (u + m + 1) cap, .int .i64 (u : Int), .int .i64 ((u : Int) + 1)] w fun e W => ∃ v', e = .returned v' ∧ IsInts W v' (M.eraseIdx u) ∧ Below g w W := by
  have h63 : (cap : Int) ≤ 9223372036854775807 := by unfold maxLen at hm; omega
  have hne : ((u : Int) == (u : Int) + 1) = false := by rw [beq_eq_false_iff_ne]; omega
  have q1 : (0 : Int) ≤ (u : Int) := by omega
  have q2 : (u : Int) ≤ (cap : Int) := by omega
  have q3 : (0 : Int) ≤ (u : Int) + 1 := by omega
  have q4 : (u : Int) + 1 ≤ (u : Int) + (m : Int) + 1 := by omega
  have q5 : (u : Int) + 1 ≤ (cap : Int) := by omega
  have q6 : u ≤ cap := by omega
  have q7 : (u : Int) + 1 ≤ ((u + m + 1 : Nat) : Int) := by omega
  obtain ⟨D, hr, hD, hDl⟩ := del_run M u m hl g cap spare w.drew hg hc
  have HD := Lib.hid hD
  have HG := Lib.hid hg
  clear hD hg
  go_enter Try.func29, Try.ntmps29
  go_wp2_with fail
  go_region_held3 (fun _ => True) (trivial) (first | (change Oper.wp _ _ _ _ _ _; refine at_apprun _ (.tmp 22) (.tmp 25) 27 rfl _ _ (by rfl) (by rfl) _ _ hr ?_))
  have hg1 : (w.drew.setRow g D.toArray).heap[g]? = some (.cells D.toArray 3 (0, 0)) := setRow_at HG.out
  have hb1 : Below g w (w.drew.setRow g D.toArray) := (Below.refl g w).drew.trans (setRow_below _ _ _)
  obtain ⟨W1, hW1⟩ : ∃ W, W = w.drew.setRow g D.toArray := ⟨_, rfl⟩
  rw [← hW1] at hg1 hb1 ⊢
  clear hW1 hr
  have hcl : ∀ ty c, (Builtin.clear_ #[27] ty #[.slice (some ⟨g, u + m, none⟩) 1 c]).run Try.prog W1 = .ok (.tuple #[]) (W1.setCell ⟨g, u + m, none⟩ (.int .i64 0)) :=
    fun ty c => Lib.run_clear_slice W1 _ _ ty _ Try.underlying27 Try.zeroValue3 rfl rfl g (u + m) 1 c (by omega) (fun j hj => by
      have e : j = 0 := by omega
      rw [e, Nat.add_zero, blk_cell hg1, List.getElem?_eq_getElem hDl]
      rfl) (fun j _ => blk_frozen hg1 _)
  have hfin : ∀ c, u + m ≤ c → c ≤ maxLen → IsInts (W1.setCell ⟨g, u + m, none⟩ (.int .i64 0)) (.slice (some ⟨g, 0, none⟩) (u + m) c) (M.eraseIdx u) := by
    intro c h1 h2
    have hel : (M.eraseIdx u).length = u + m := by rw [List.length_eraseIdx, if_pos (by omega), hl]; omega
    refine ⟨_, c, by rw [hel], by omega, h2, fun k x hk => ⟨g, 0, rfl, ?_⟩⟩
    have hkl := (List.getElem?_eq_some_iff.1 hk).1
    have h3 : W1.cell? ⟨g, k, none⟩ = some (.int .i64 x) := by rw [blk_cell hg1]; exact HD.out k x hk
    simp only [IntAt, Nat.zero_add, Nat.mul_one]
    rw [World.cell?_setCell_other _ _ _ _ (by intro h; simp only [Addr.mk.injEq] at h; omega)]
    exact h3
  have HFIN := Lib.hid hfin
  clear hfin
  go_wp2_with fail
  all_goals
    go_ret
    exact ⟨_, rfl, HFIN.out _ (by omega) (by omega), hb1.setCell (Nat.le_refl _) _⟩
end Go.Proofs.Ytgecbjjcjemcgaa
