/- slices.Repeat at one integer, few times. -/
import Derived.Test.YtgecbjjcjemcgaaDrow
import Derived.Laws.CopyRow
import Derived.Laws.CopyOwn
import Derived.Laws.MakeOwn
import Derived.Deep.RegionHeld3
namespace Go.Proofs.Ytgecbjjcjemcgaa
open Go.RowKit

set_option maxRecDepth 100000 in
set_option maxHeartbeats 2000000 in
theorem mul64_one (n : Nat) (h : n = 1 ∨ n = 2 ∨ n = 3 ∨ n = 4 ∨ n = 5 ∨ n = 6) (w : World) : Calls Try.prog 84 #[.int .u64 1, .int .u64 (n : Int)] w fun e w' => e = .returned (.tuple #[.int .u64 0, .int .u64 (n : Int)]) ∧ w = w' := by
  rcases h with rfl | rfl | rfl | rfl | rfl | rfl
  all_goals
    go_enter Try.func84, Try.ntmps84
    go_wp2
    go_ret2
    exact ⟨rfl, rfl⟩

set_option maxRecDepth 100000 in
set_option maxHeartbeats 2000000 in
theorem mul_one (n : Nat) (h : n = 1 ∨ n = 2 ∨ n = 3 ∨ n = 4 ∨ n = 5 ∨ n = 6) (w : World) : Calls Try.prog 81 #[.int .u64 1, .int .u64 (n : Int)] w fun e w' => e = .returned (.tuple #[.int .u64 0, .int .u64 (n : Int)]) ∧ w = w' := by
  have H := Lib.hid h
  clear h
  go_enter Try.func81, Try.ntmps81
  go_wp2_with (go_at_call 84; refine (mul64_one n H.out _).mono ?_; rintro e w1 ⟨rfl, rfl⟩)
  go_ret2
  exact ⟨rfl, rfl⟩

theorem info_int : (Try.prog.info? 3).map (fun i => (i.zero, i.size, i.bytes)) = some (some (.int .i64 0), 1, 8) := by kernel_rfl
theorem made_ints (n : Nat) : madeCells (Value.int .i64 0).cells n = (ints (List.replicate n 0)).toArray := by
  apply Array.ext_getElem?
  intro i
  have hc : (Value.int .i64 0).cells = #[.int .i64 0] := rfl
  simp only [madeCells, hc, Array.getElem?_map, ints, List.map_replicate, List.getElem?_toArray, List.getElem?_replicate]
  by_cases h : i < n
  · simp [h, Nat.mod_one]
  · simp [h]
theorem make_ints (n : Nat) (h : n ≤ 64) (w : World) : (Instr.makeSlice 27 (.int .i64 (n : Int)) (.int .i64 (n : Int))).run Try.prog w = .ok (.slice (some ⟨w.heap.size, 0, none⟩) n n) (w.alloc (.cells (ints (List.replicate n 0)).toArray 3)) := by
  obtain ⟨i0, hi0, hz0, hz1, hz2⟩ := info_parts info_int
  have := run_make (P := Try.prog) w 27 3 i0 _ Try.underlying27 hi0 hz0 .i64 .i64 (n : Int) (n : Int) (by omega) (Int.le_refl _) (by rw [hz2]; omega) (by omega)
  rw [this, hz1]
  simp only [Int.toNat_natCast, Nat.mul_one, made_ints]
theorem row_new (w : World) (d : List Int) : Row (w.alloc (.cells (ints d).toArray 3)) w.heap.size d := heap_alloc_new w _

theorem copy_at {P : Program} (w : World) {o : Oper} {a : Act} {K : Act → World → Prop} {Q : Exit → Act → World → Prop} (d s : Operand) (t t' : TypeId)
    (ho : o.op = .call { callee := .builtin .copy, args := #[d, s], argTypes := #[t, t'] }) (v u : Value) (hd : a.eval d = v) (hs : a.eval s = u) {v' : Value} {w' : World}
    (hr : (Builtin.copy_ #[t, t'] o.type #[v, u]).run P w = .ok v' w') (h : K (a.put o.dst v') w') : o.wp P a w K Q := by
  unfold Oper.wp execOp
  simp only [ho, resolve, invoke, builtin, Sem.run_bind, Sem.run_pure, Result.andThen_ok, List.map_toArray, List.map_cons, List.map_nil, hd, hs, hr]
  exact h
theorem copy_list {P : Program} (w : World) {ops : Array Oper} {rest : List Oper} {o : Oper} {a : Act} {Q : Exit → Act → World → Prop} (hgd : o.guard = none) (d s : Operand) (t t' : TypeId)
    (ho : o.op = .call { callee := .builtin .copy, args := #[d, s], argTypes := #[t, t'] }) (v u : Value) (hd : a.eval d = v) (hs : a.eval s = u) {v' : Value} {w' : World}
    (hr : (Builtin.copy_ #[t, t'] o.type #[v, u]).run P w = .ok v' w') (h : wpList P ops Q rest (a.put o.dst v') w') : wpList P ops Q (o :: rest) a w :=
  wpList_plain hgd fun _ hK => copy_at w d s t t' ho v u hd hs hr (hK _ _ h)
theorem copy_step {P : Program} (w : World) {ops : Array Oper} {o : Oper} {a : Act} {K : Act → World → Prop} {Q : Exit → Act → World → Prop} {E : Prop} (hgd : o.guard = none) (d s : Operand) (t t' : TypeId)
    (ho : o.op = .call { callee := .builtin .copy, args := #[d, s], argTypes := #[t, t'] }) (v u : Value) (hd : a.eval d = v) (hs : a.eval s = u) {v' : Value} {w' : World}
    (hr : (Builtin.copy_ #[t, t'] o.type #[v, u]).run P w = .ok v' w') (h : K (a.put o.dst v') w') : if Region.wanted o (yielded ops a.tmps) = true then Oper.wp P o a w K Q else E := by
  have hw : Region.wanted o (yielded ops a.tmps) = true := by simp [Region.wanted, hgd]
  rw [if_pos hw]
  exact copy_at w d s t t' ho v u hd hs hr h

/-- a part of a row of integers is copied into a row of integers -/
theorem copy_ints {W : World} {g g' : Nat} {D E : List Int} (o p m n c c' : Nat) (hD : Row W g D) (hE : Row W g' E) (k : Nat) (hk : k = Nat.min m n) (h1 : o + k ≤ D.length) (h2 : p + k ≤ E.length) :
    ∃ W', (Builtin.copy_ #[27, 27] 3 #[.slice (some ⟨g, o, none⟩) n c, .slice (some ⟨g', p, none⟩) m c']).run Try.prog W = .ok (.int .i64 (k : Int)) W' ∧ Row W' g (D.take o ++ (E.drop p).take k ++ D.drop (o + k)) ∧ (∀ (w0 : World) B, B ≤ g → Below B w0 W → Below B w0 W') := by
  have hlen : (ints ((E.drop p).take k)).length = k := by simp [ints]; omega
  have hr := run_copy_row (P := Try.prog) W 27 27 3 3 g o n c ⟨g', p, none⟩ m c' (ints D).toArray 3 (ints ((E.drop p).take k)) Try.underlying27 (by kernel_rfl) hD (by rw [hlen]; exact hk) (fun j v hj => by
      have hjl := (List.getElem?_eq_some_iff.1 hj).1
      rw [hlen] at hjl
      rw [addr_add, hE.cell (by omega)]
      unfold ints at hj
      rw [List.getElem?_map, List.getElem?_take_of_lt hjl, List.getElem?_drop, gd_at (by omega)] at hj
      exact hj) (by rw [hlen]; simp [ints]; omega) (fun v hv => by
      obtain ⟨x, _, rfl⟩ := List.mem_map.1 hv
      rfl)
  rw [hlen] at hr
  refine ⟨_, hr, ?_, fun w0 B hB hb => below_setRow hb hB _⟩
  have e : ((ints D).toArray.toList.take o ++ ints ((E.drop p).take k) ++ (ints D).toArray.toList.drop (o + k)) = ints (D.take o ++ (E.drop p).take k ++ D.drop (o + k)) := by
    simp only [ints, List.map_append, List.map_take, List.map_drop]
  unfold Row
  rw [← e]
  exact setRow_heap W g _ _ _ _ hD

theorem rep_next (n m : Nat) (x : Int) (k : Nat) (hk : k = Nat.min m (n - m)) :
    (List.replicate m x ++ List.replicate (n - m) 0).take m ++ ((List.replicate m x ++ List.replicate (n - m) 0).drop 0).take k ++ (List.replicate m x ++ List.replicate (n - m) 0).drop (m + k) = List.replicate (m + k) x ++ List.replicate (n - (m + k)) 0 := by
  have hk1 : k ≤ m := by rw [hk]; exact Nat.min_le_left _ _
  have hk2 : k ≤ n - m := by rw [hk]; exact Nat.min_le_right _ _
  rw [List.drop_zero, List.take_append_of_le_length (by simp), List.take_append_of_le_length (by simpa using hk1), List.take_of_length_le (by simp), List.take_replicate, Nat.min_eq_left hk1, List.drop_append, List.drop_of_length_le (by simp), List.nil_append, List.length_replicate, Nat.add_sub_cancel_left, List.drop_replicate, List.replicate_append_replicate]
  congr 2
  omega

set_option maxRecDepth 100000 in
set_option maxHeartbeats 2000000 in
theorem repeat_one (n : Nat) (h : n = 1 ∨ n = 2 ∨ n = 3 ∨ n = 4 ∨ n = 5 ∨ n = 6) (w : World) (g : Nat) (hg : Row w g [-1]) : Calls Try.prog 69 #[.slice (some ⟨g, 0, none⟩) 1 1, .int .i64 (n : Int)] w fun e w' =>
    ∃ g', e = .returned (.slice (some ⟨g', 0, none⟩) n n) ∧ Row w' g' (List.replicate n (-1)) ∧ w.heap.size ≤ g' ∧ Below w.heap.size w w' := by
  have HG := Lib.hid hg
  have HN := Lib.hid h
  have hn1 : 1 ≤ n := by omega
  have hn6 : n ≤ 6 := by omega
  clear h hg
  have hmk := make_ints n (by omega) w
  have hneg : ¬ (n : Int) < 0 := by omega
  have hbig : ¬ (9223372036854775807 : Int) < (n : Int) := by omega
  have hu : IntKind.u64.wrap (n : Int) = (n : Int) := IntWalk.u64_in _ (by omega)
  have hi : IntKind.i64.wrap (n : Int) = (n : Int) := IntWalk.i64_in _ (by omega)
  obtain ⟨W1, hr1, hR1, hB1⟩ := copy_ints 0 0 1 n n 1 (row_new w (List.replicate n 0)) (HG.out.stays (bel_one w (.cells (ints (List.replicate n 0)).toArray 3))) 1 (by rw [show Nat.min 1 n = 1 from Nat.min_eq_left hn1]) (by simp; omega) (by simp)
  have hbel : Below w.heap.size w W1 := hB1 w _ (Nat.le_refl _) (bel_one _ _)
  have HR1 : Hid (Row W1 w.heap.size (List.replicate 1 (-1) ++ List.replicate (n - 1) 0)) := Lib.hid (by simpa using hR1)
  have HB1 := Lib.hid hbel
  clear hR1 hB1 hbel
  go_enter Try.func69, Try.ntmps69
  go_wp2_with (first
    | (go_at_call 81; refine (mul_one n HN.out _).mono ?_; rintro e w1 ⟨rfl, rfl⟩)
    | (at_builtin; refine copy_list _ rfl (.tmp 31) (.tmp 32) 27 27 rfl _ _ rfl rfl hr1 ?_; clear hr1))
  go_loopw [8] (fun i wr => ∃ m : Nat, 1 ≤ m ∧ m ≤ n ∧ i = .int .i64 m ∧ Hid (Row wr w.heap.size (List.replicate m (-1) ++ List.replicate (n - m) 0) ∧ Below w.heap.size w wr)) (fun i _ => n - (intOf i).toNat)
  case atStart => exact ⟨1, Nat.le_refl _, hn1, rfl, HR1.out, HB1.out⟩
  case round =>
    obtain ⟨m, hm1, hmn, rfl, HI⟩ := hrel
    by_cases hlt : m < n
    · have hlt' : (m : Int) < (n : Int) := by omega
      have hle' : (m : Int) ≤ (n : Int) := by omega
      have h0 : (0 : Int) ≤ (m : Int) := by omega
      have hne : ¬ n = m := by omega
      obtain ⟨k, hk⟩ : ∃ k, k = Nat.min m (n - m) := ⟨_, rfl⟩
      have hk1 : k ≤ m := by rw [hk]; exact Nat.min_le_left _ _
      have hk2 : k ≤ n - m := by rw [hk]; exact Nat.min_le_right _ _
      have hk3 : 1 ≤ k := by rw [hk]; exact Nat.le_min.2 ⟨hm1, by omega⟩
      have hw : IntKind.i64.wrap ((m : Int) + (k : Int)) = (m : Int) + (k : Int) := IntWalk.i64_in _ (by omega)
      have hRd : Row wr.drew w.heap.size (List.replicate m (-1) ++ List.replicate (n - m) 0) := HI.out.1
      obtain ⟨W2, hr2, hR2, hB2⟩ := copy_ints m 0 m (n - m) (n - m) n hRd hRd k hk (by simp; omega) (by simp; omega)
      rw [rep_next n m (-1) k hk] at hR2
      have HR2 := Lib.hid hR2
      have HB2 := Lib.hid (hB2 w _ (Nat.le_refl _) HI.out.2.drew)
      clear hR2 hB2 hk hRd
      go_wp2_with fail
      go_region_held3 (fun _ => True) (trivial) (first | (refine copy_step _ rfl (.tmp 41) (.tmp 44) 27 27 rfl _ _ rfl rfl hr2 ?_; clear hr2))
      go_wp2_with fail
      go_roundw
      case rel => exact ⟨m + k, by omega, by omega, by go_num, HR2.out, HB2.out⟩
      case measure => simp [intOf]; omega
    · obtain rfl : m = n := by omega
      go_wp2
      go_ret
      exact ⟨_, rfl, by have h := HI.out.1; simpa using h, Nat.le_refl _, HI.out.2⟩
end Go.Proofs.Ytgecbjjcjemcgaa
