/- A zone out of numbers, as the law writes it; equal zones and lists. -/
import Derived.Test.YtgecbjjcjemcgaaDproj
namespace Go.Proofs.Ytgecbjjcjemcgaa
open Go.RowKit

/-- the bounds that numbers mean, three a bound -/
def bdsOf : List Int → List Bd
  | x :: y :: m :: l => ⟨x, y, m⟩ :: bdsOf l
  | _ => []
def flat3 (l : List Bd) : List Int := l.flatMap fun b => [b.x, b.y, b.most]
theorem flat3_length (l : List Bd) : (flat3 l).length = l.length * 3 := by
  induction l with
  | nil => rfl
  | cons b l ih => simp only [flat3, List.flatMap_cons, List.length_append, List.length_cons, List.length_nil] at *; omega
theorem flat3_get : ∀ (l : List Bd) (k : Nat) (b : Bd), l[k]? = some b → (flat3 l)[k * 3]? = some b.x ∧ (flat3 l)[k * 3 + 1]? = some b.y ∧ (flat3 l)[k * 3 + 2]? = some b.most
  | [], k, b, h => by simp at h
  | c :: l, 0, b, h => by simp at h; subst h; simp [flat3]
  | c :: l, k + 1, b, h => by
    have := flat3_get l k b (by simpa using h)
    rw [show (k + 1) * 3 = k * 3 + 3 by omega]
    simpa [flat3] using this

set_option maxRecDepth 100000 in
set_option maxHeartbeats 2000000 in
theorem zone_any (n : Int) (l : List Bd) (v : Value) (w : World) (hl : IsInts w v (flat3 l)) (hsm : l.length ≤ 64) :
    Calls Try.prog 41 #[.int .i64 n, v] w fun e W => ∃ v', e = .returned (zoneV n v') ∧ IsBds W v' l ∧ Below w.heap.size w W := by
  obtain ⟨A, c, rfl, h1, h2, hat⟩ := hl
  have HAT := Lib.hid hat
  have hfl := flat3_length l
  clear hat h1 h2
  obtain ⟨j0, hj0, hy0, hy1, hy2⟩ := info_parts info_bd
  go_enter Try.func41, Try.ntmps41
  go_wp2_with fail
  refine wp_gen ?_
  intro W3 hW3
  have hb3 : Below w.heap.size w W3 := by rw [hW3]; exact bel_al (bel_one _ _) _
  have hr : ∀ i, W3.cell? ⟨w.heap.size, i, none⟩ = #[Value.int .i64 0, Value.slice none 0 0][i]? := by rw [hW3]; exact (two_cells (Below.refl _ _)).1
  have hrf : ∀ i, W3.frozen? ⟨w.heap.size, i, none⟩ = false := by rw [hW3]; exact (new_cells (bel_one _ _)).2
  have ho := (two_cells (Below.refl ((w.alloc (.cells #[.int .i64 0, .slice none 0 0] 24)).alloc (.cells #[.int .i64 n, .slice none 0 0] 24)).heap.size _))
  rw [← hW3] at ho
  have hs3 : W3.heap.size = w.heap.size + 2 := by rw [hW3]; simp
  have HO := Lib.hid ho.2
  have HB3 := Lib.hid hb3
  clear ho hW3 hb3
  go_loopw [6] (fun i wr => ∃ (k : Nat) (vo : Value), k ≤ l.length ∧ i = .int .i64 ((k * 3 : Nat) : Int) ∧ Hid (wr.cell? ⟨w.heap.size + 1, 1, none⟩ = some vo ∧ wr.ownsRow (w.heap.size + 2) 56 3 vo k (bdc (l.take k)) ∧ wr.cell? ⟨w.heap.size + 1, 0, none⟩ = some (.int .i64 n) ∧ wr.frozen? ⟨w.heap.size + 1, 1, none⟩ = false ∧ Below (w.heap.size + 1) W3 wr)) (fun i _ => l.length * 3 - (intOf i).toNat)
  case atStart => exact ⟨0, _, Nat.zero_le _, rfl, HO.out.1 1, ⟨rfl, .inl ⟨rfl, rfl⟩⟩, HO.out.1 0, HO.out.2.1 1, Below.refl _ _⟩
  case round =>
    obtain ⟨k, vo, hk, rfl, HI⟩ := hrel
    have x1 := HI.out.1
    have hbo := World.block_lt_of_cell? wr _ x1
    simp only at hbo
    obtain ⟨Ao, co, hAo⟩ := slice_own HI.out.2.1
    subst hAo
    have hwa : IntKind.i64.wrap (((k * 3 : Nat) : Int) + 2) = ((k * 3 + 2 : Nat) : Int) := by rw [IntWalk.i64_in _ (by omega)]; omega
    have hwb : IntKind.i64.wrap (((k * 3 : Nat) : Int) + 1) = ((k * 3 + 1 : Nat) : Int) := by rw [IntWalk.i64_in _ (by omega)]; omega
    have hwc : IntKind.i64.wrap (((k * 3 : Nat) : Int) + 3) = (((k + 1) * 3 : Nat) : Int) := by rw [IntWalk.i64_in _ (by omega)]; omega
    obtain ⟨K3, hK3⟩ : ∃ K3, K3 = k * 3 := ⟨_, rfl⟩
    obtain ⟨K4, hK4⟩ : ∃ K4, K4 = (k + 1) * 3 := ⟨_, rfl⟩
    rw [← hK3] at hwa hwb hwc ⊢
    rw [← hK4] at hwc
    have HK3 := Lib.hid hK3
    have HK4 := Lib.hid hK4
    have HB0 : Hid (Below w.heap.size w wr) := Lib.hid (HB3.out.trans (HI.out.2.2.2.2.mono (by omega)))
    by_cases hlt : k < l.length
    · have hl2 : ((K3 + 2 : Nat) : Int) < ((flat3 l).length : Int) := by omega
      have hl1 : ((K3 + 1 : Nat) : Int) < ((flat3 l).length : Int) := by omega
      have hl0 : (K3 : Int) < ((flat3 l).length : Int) := by omega
      have hget := List.getElem?_eq_getElem hlt
      obtain ⟨b, hbk⟩ : ∃ b, b = l[k] := ⟨_, rfl⟩
      rw [← hbk] at hget
      have HGET := Lib.hid hget
      obtain ⟨f0, f1, f2⟩ := flat3_get l k b hget
      rw [← hK3] at f0 f1 f2
      obtain ⟨g, o, rfl, p0⟩ := HAT.out _ _ f0
      obtain ⟨g', o', hA1, p1⟩ := HAT.out _ _ f1
      injection hA1 with hA1
      injection hA1 with ea eb
      subst ea eb
      obtain ⟨g', o', hA1, p2⟩ := HAT.out _ _ f2
      injection hA1 with hA1
      injection hA1 with ea eb
      subst ea eb
      simp only [Nat.mul_one] at p0 p1 p2
      replace p0 : w.cell? ⟨g, o + K3, none⟩ = some (.int .i64 b.x) := p0
      replace p1 : w.cell? ⟨g, o + (K3 + 1), none⟩ = some (.int .i64 b.y) := p1
      replace p2 : w.cell? ⟨g, o + (K3 + 2), none⟩ = some (.int .i64 b.most) := p2
      have hgl := World.block_lt_of_cell? w _ p0
      replace p0 := cell_stays HB0.out p0
      replace p1 := cell_stays HB0.out p1
      replace p2 := cell_stays HB0.out p2
      simp only at hgl
      have xf := HI.out.2.2.2.1
      have hwl := HB0.out.size
      have hng : w.heap.size + 1 ≠ g := by omega
      have x1d : ∀ ob, (wr.alloc ob).drew.cell? ⟨w.heap.size + 1, 1, none⟩ = some (.slice Ao k co) := fun ob => cell_stays (bel_one wr ob) x1
      have hm2 : (K3 : Int) + 2 < ((flat3 l).length : Int) := by omega
      have hm1 : (K3 : Int) + 1 < ((flat3 l).length : Int) := by omega
      have hn1 : (0 : Int) ≤ (K3 : Int) + 1 := by omega
      have hn2 : (0 : Int) ≤ (K3 : Int) + 2 := by omega
      have ht2 : ((K3 : Int) + 2).toNat = K3 + 2 := by omega
      have HFL := Lib.hid hfl
      clear hget hbk f0 f1 f2 hK3 hK4 hfl
      go_wp2_with fail
      refine wp_region_noPanic ?_
      refine wp_region_held_drew (S := (fun W => W.cell? ⟨g, o + K3, none⟩ = some (.int .i64 b.x) ∧ W.cell? ⟨g, o + (K3 + 1), none⟩ = some (.int .i64 b.y) ∧ W.cell? ⟨g, o + (K3 + 2), none⟩ = some (.int .i64 b.most))) (by kernel_rfl) (⟨p0, p1, p2⟩) (fun hHeld => ?_)
      refine wpAnyH_take (i := 0) (oi := { dst := some 16, op := Op.fieldAddr 24 (Operand.tmp 5) 1, type := 0, pos := "law.go:15", after := #[], guard := none }) (v := ?_) rfl (by kernel_rfl) (by kernel_rfl) (by kernel_rfl) (fun _ _ _ h => h) (Or.inl ⟨by rfl, ?_⟩) (by assumption) ?_
      rotate_left 1
      · (intro wS hSw; (try dsimp only at hSw); go_simp <;> with_reducible rfl)
      try simp only [Act.put, List.setIfInBounds_toArray, List.set_cons_zero, List.set_cons_succ]
      refine wpAnyH_take (i := 2) (oi := { dst := some 18, op := Op.move (Operand.tmp 1), type := 27, pos := "law.go:15", after := #[], guard := none }) (v := ?_) rfl (by kernel_rfl) (by kernel_rfl) (by kernel_rfl) (fun _ _ _ h => h) (Or.inl ⟨by rfl, ?_⟩) (by assumption) ?_
      rotate_left 1
      · (intro wS hSw; (try dsimp only at hSw); go_simp <;> with_reducible rfl)
      try simp only [Act.put, List.setIfInBounds_toArray, List.set_cons_zero, List.set_cons_succ]
      refine wpAnyH_take (i := 3) (oi := { dst := some 19, op := Op.move (Operand.tmp 6), type := 3, pos := "law.go:15", after := #[], guard := none }) (v := ?_) rfl (by kernel_rfl) (by kernel_rfl) (by kernel_rfl) (fun _ _ _ h => h) (Or.inl ⟨by rfl, ?_⟩) (by assumption) ?_
      rotate_left 1
      · (intro wS hSw; (try dsimp only at hSw); go_simp <;> with_reducible rfl)
      try simp only [Act.put, List.setIfInBounds_toArray, List.set_cons_zero, List.set_cons_succ]
      refine wpAnyH_take (i := 4) (oi := { dst := some 20, op := Op.indexAddr 27 (Operand.tmp 18) (Operand.tmp 19), type := 0, pos := "law.go:15", after := #[{ on := 2, ground := Ground.data }, { on := 3, ground := Ground.data }], guard := none }) (v := ?_) rfl (by kernel_rfl) (by kernel_rfl) (by kernel_rfl) (fun _ _ _ h => h) (Or.inl ⟨by rfl, ?_⟩) (by assumption) ?_
      rotate_left 1
      · (intro wS hSw; (try dsimp only at hSw); go_simp <;> with_reducible rfl)
      try simp only [Act.put, List.setIfInBounds_toArray, List.set_cons_zero, List.set_cons_succ]
      refine wpAnyH_take (i := 5) (oi := { dst := some 21, op := Op.load 3 (Operand.tmp 20), type := 3, pos := "law.go:15", after := #[{ on := 4, ground := Ground.data }], guard := none }) (v := ?_) rfl (by kernel_rfl) (by kernel_rfl) (by kernel_rfl) (fun _ _ _ h => h) (Or.inl ⟨by rfl, ?_⟩) (by assumption) ?_
      rotate_left 1
      · (intro wS hSw; (try dsimp only at hSw); go_simp <;> with_reducible rfl)
      try simp only [Act.put, List.setIfInBounds_toArray, List.set_cons_zero, List.set_cons_succ]
      refine wpAnyH_take (i := 6) (oi := { dst := some 22, op := Op.move (Operand.tmp 1), type := 27, pos := "law.go:15", after := #[], guard := none }) (v := ?_) rfl (by kernel_rfl) (by kernel_rfl) (by kernel_rfl) (fun _ _ _ h => h) (Or.inl ⟨by rfl, ?_⟩) (by assumption) ?_
      rotate_left 1
      · (intro wS hSw; (try dsimp only at hSw); go_simp <;> with_reducible rfl)
      try simp only [Act.put, List.setIfInBounds_toArray, List.set_cons_zero, List.set_cons_succ]
      refine wpAnyH_take (i := 7) (oi := { dst := some 23, op := Op.move (Operand.tmp 6), type := 3, pos := "law.go:15", after := #[], guard := none }) (v := ?_) rfl (by kernel_rfl) (by kernel_rfl) (by kernel_rfl) (fun _ _ _ h => h) (Or.inl ⟨by rfl, ?_⟩) (by assumption) ?_
      rotate_left 1
      · (intro wS hSw; (try dsimp only at hSw); go_simp <;> with_reducible rfl)
      try simp only [Act.put, List.setIfInBounds_toArray, List.set_cons_zero, List.set_cons_succ]
      refine wpAnyH_take (i := 8) (oi := { dst := some 24, op := Op.binOp BinOp.add 3 (Operand.tmp 23) (Operand.const (Value.int IntKind.i64 1)) 3, type := 3, pos := "law.go:15", after := #[{ on := 7, ground := Ground.data }], guard := none }) (v := ?_) rfl (by kernel_rfl) (by kernel_rfl) (by kernel_rfl) (fun _ _ _ h => h) (Or.inl ⟨by rfl, ?_⟩) (by assumption) ?_
      rotate_left 1
      · (intro wS hSw; (try dsimp only at hSw); go_simp <;> with_reducible rfl)
      try simp only [Act.put, List.setIfInBounds_toArray, List.set_cons_zero, List.set_cons_succ]
      refine wpAnyH_take (i := 9) (oi := { dst := some 25, op := Op.indexAddr 27 (Operand.tmp 22) (Operand.tmp 24), type := 0, pos := "law.go:15", after := #[{ on := 6, ground := Ground.data }, { on := 8, ground := Ground.data }], guard := none }) (v := ?_) rfl (by kernel_rfl) (by kernel_rfl) (by kernel_rfl) (fun _ _ _ h => h) (Or.inl ⟨by rfl, ?_⟩) (by assumption) ?_
      rotate_left 1
      · (intro wS hSw; (try dsimp only at hSw); go_simp <;> with_reducible rfl)
      try simp only [Act.put, List.setIfInBounds_toArray, List.set_cons_zero, List.set_cons_succ]
      refine wpAnyH_take (i := 10) (oi := { dst := some 26, op := Op.load 3 (Operand.tmp 25), type := 3, pos := "law.go:15", after := #[{ on := 9, ground := Ground.data }], guard := none }) (v := ?_) rfl (by kernel_rfl) (by kernel_rfl) (by kernel_rfl) (fun _ _ _ h => h) (Or.inl ⟨by rfl, ?_⟩) (by assumption) ?_
      rotate_left 1
      · (intro wS hSw; (try dsimp only at hSw); go_simp <;> with_reducible rfl)
      try simp only [Act.put, List.setIfInBounds_toArray, List.set_cons_zero, List.set_cons_succ]
      refine wpAnyH_take (i := 11) (oi := { dst := some 27, op := Op.move (Operand.tmp 1), type := 27, pos := "law.go:15", after := #[], guard := none }) (v := ?_) rfl (by kernel_rfl) (by kernel_rfl) (by kernel_rfl) (fun _ _ _ h => h) (Or.inl ⟨by rfl, ?_⟩) (by assumption) ?_
      rotate_left 1
      · (intro wS hSw; (try dsimp only at hSw); go_simp <;> with_reducible rfl)
      try simp only [Act.put, List.setIfInBounds_toArray, List.set_cons_zero, List.set_cons_succ]
      refine wpAnyH_take (i := 12) (oi := { dst := some 28, op := Op.move (Operand.tmp 6), type := 3, pos := "law.go:15", after := #[], guard := none }) (v := ?_) rfl (by kernel_rfl) (by kernel_rfl) (by kernel_rfl) (fun _ _ _ h => h) (Or.inl ⟨by rfl, ?_⟩) (by assumption) ?_
      rotate_left 1
      · (intro wS hSw; (try dsimp only at hSw); go_simp <;> with_reducible rfl)
      try simp only [Act.put, List.setIfInBounds_toArray, List.set_cons_zero, List.set_cons_succ]
      refine wpAnyH_take (i := 13) (oi := { dst := some 29, op := Op.binOp BinOp.add 3 (Operand.tmp 28) (Operand.const (Value.int IntKind.i64 2)) 3, type := 3, pos := "law.go:15", after := #[{ on := 12, ground := Ground.data }], guard := none }) (v := ?_) rfl (by kernel_rfl) (by kernel_rfl) (by kernel_rfl) (fun _ _ _ h => h) (Or.inl ⟨by rfl, ?_⟩) (by assumption) ?_
      rotate_left 1
      · (intro wS hSw; (try dsimp only at hSw); go_simp <;> with_reducible rfl)
      try simp only [Act.put, List.setIfInBounds_toArray, List.set_cons_zero, List.set_cons_succ]
      refine wpAnyH_take (i := 14) (oi := { dst := some 30, op := Op.indexAddr 27 (Operand.tmp 27) (Operand.tmp 29), type := 0, pos := "law.go:15", after := #[{ on := 11, ground := Ground.data }, { on := 13, ground := Ground.data }], guard := none }) (v := ?_) rfl (by kernel_rfl) (by kernel_rfl) (by kernel_rfl) (fun _ _ _ h => h) (Or.inl ⟨by rfl, ?_⟩) (by assumption) ?_
      rotate_left 1
      · (intro wS hSw; (try dsimp only at hSw); go_simp <;> with_reducible rfl)
      try simp only [Act.put, List.setIfInBounds_toArray, List.set_cons_zero, List.set_cons_succ]
      refine wpAnyH_take (i := 15) (oi := { dst := some 31, op := Op.load 3 (Operand.tmp 30), type := 3, pos := "law.go:15", after := #[{ on := 14, ground := Ground.data }], guard := none }) (v := ?_) rfl (by kernel_rfl) (by kernel_rfl) (by kernel_rfl) (fun _ _ _ h => h) (Or.inl ⟨by rfl, ?_⟩) (by assumption) ?_
      rotate_left 1
      · (intro wS hSw; (try dsimp only at hSw); go_simp <;> with_reducible rfl)
      try simp only [Act.put, List.setIfInBounds_toArray, List.set_cons_zero, List.set_cons_succ]
      refine wpAnyH_take (i := 16) (oi := { dst := some 32, op := Op.build 56 #[(0, Operand.tmp 21), (1, Operand.tmp 26), (2, Operand.tmp 31)], type := 56, pos := "law.go:15", after := #[{ on := 5, ground := Ground.data }, { on := 10, ground := Ground.data }, { on := 15, ground := Ground.data }], guard := none }) (v := ?_) rfl (by kernel_rfl) (by kernel_rfl) (by kernel_rfl) (fun _ _ _ h => h) (Or.inl ⟨by rfl, ?_⟩) (by assumption) ?_
      rotate_left 1
      · (intro wS hSw; (try dsimp only at hSw); go_simp <;> with_reducible rfl)
      try simp only [Act.put, List.setIfInBounds_toArray, List.set_cons_zero, List.set_cons_succ]
      refine wpAnyH_ready (rs := [1, 17]) (by kernel_rfl) (by simp) ?_
      refine AllReadyH.cons (o := { dst := some 17, op := Op.load 22 (Operand.tmp 16), type := 22, pos := "law.go:15", after := #[{ on := 0, ground := Ground.data }], guard := none }) rfl (fun K hK => ?_) ?_
      · go_simp
        refine hK.out _ _ (⟨p0, p1, p2⟩) (fun hHeld => ?_)
        clear hK K
        try simp only [Act.put, List.setIfInBounds_toArray, List.set_cons_zero, List.set_cons_succ]
        refine wpAnyH_ready (rs := [17]) (by kernel_rfl) (by simp) ?_
        refine AllReadyH.cons (o := { dst := some 33, op := Op.buildSlice 22 1 #[(0, Operand.tmp 32)], type := 22, pos := "law.go:15", after := #[{ on := 16, ground := Ground.data }], guard := none }) rfl (fun K hK => ?_) ?_
        · go_simp
          refine hK.out _ _ (⟨cell_stays (bel_one _ _) p0, cell_stays (bel_one _ _) p1, cell_stays (bel_one _ _) p2⟩) (fun hHeld => ?_)
          clear hK K
          try simp only [Act.put, List.setIfInBounds_toArray, List.set_cons_zero, List.set_cons_succ]
          refine wpAnyH_ready (rs := [18]) (by kernel_rfl) (by simp) ?_
          refine AllReadyH.cons (o := { dst := some 34, op := Op.call { callee := Callee.builtin Builtin.append, args := #[Operand.tmp 17, Operand.tmp 33], argTypes := #[22, 22] }, type := 22, pos := "law.go:15", after := #[{ on := 1, ground := Ground.data }, { on := 17, ground := Ground.data }], guard := none }) rfl (fun K hK => ?_) ?_
          · (refine step_app _ rfl (.tmp 17) (.tmp 33) 22 rfl (w.heap.size + 2) 56 j0 _ 3 24 Try.underlying22 hj0 hy0 hy1 hy2 rfl (by decide) (.slice Ao k co) k (bdc (l.take k)) rfl (ownsRow_below HI.out.2.1 (bel_one _ _).drew) (some ⟨wr.heap.size, 0, none⟩) 1 1 [.int .i64 b.x, .int .i64 b.y, .int .i64 b.most] rfl (src_new' wr [.int .i64 b.x, .int .i64 b.y, .int .i64 b.most] _ 1 3 _ rfl rfl (by simp [Value.oneCell'])) (by unfold maxLen; omega) (by omega) (by simp; omega) ?_; intro v6 w6 hown6 hg6 hloc6; have HO6 := Lib.hid hown6; have hbk : ∀ b', b' < w.heap.size + 2 → w6.heap[b']? = wr.heap[b']? := (fun b' h1 => (hg6.block b' (by simp; omega) (fun e => by have h5 := ownsRow_lt HI.out.2.1 e.symm; omega)).trans (Below.heap_alloc wr _ b' (by omega))); have k0 : w6.cell? ⟨g, o + K3, none⟩ = some (.int .i64 b.x) := (World.cell?_of_block (a := ⟨g, o + K3, none⟩) (hbk g (by omega))).trans p0; have k1 : w6.cell? ⟨g, o + (K3 + 1), none⟩ = some (.int .i64 b.y) := (World.cell?_of_block (a := ⟨g, o + (K3 + 1), none⟩) (hbk g (by omega))).trans p1; have k2 : w6.cell? ⟨g, o + (K3 + 2), none⟩ = some (.int .i64 b.most) := (World.cell?_of_block (a := ⟨g, o + (K3 + 2), none⟩) (hbk g (by omega))).trans p2; have hbk2 := hbk (w.heap.size + 1) (by omega); have x6 : w6.cell? ⟨w.heap.size + 1, 1, none⟩ = some (.slice Ao k co) := (World.cell?_of_block (a := ⟨w.heap.size + 1, 1, none⟩) hbk2).trans x1; have xf6 : w6.frozen? ⟨w.heap.size + 1, 1, none⟩ = false := (World.frozen?_of_block (a := ⟨w.heap.size + 1, 1, none⟩) hbk2).trans xf; have X06 : Hid (w6.cell? ⟨w.heap.size + 1, 0, none⟩ = some (.int .i64 n)) := Lib.hid ((World.cell?_of_block (a := ⟨w.heap.size + 1, 0, none⟩) hbk2).trans HI.out.2.2.1); have HB6 : Hid (Below (w.heap.size + 1) W3 w6) := Lib.hid (HI.out.2.2.2.2.trans (((Below.refl _ wr).alloc (by omega) _).drew.trans (grown_below hg6 (by simp; omega) (fun g h => by have := (ownsRow_lt HI.out.2.1 h).1; omega)))); obtain ⟨A6, c6, rfl⟩ := slice_own hown6; clear hown6 hg6 hloc6 hbk hbk2)
            refine hK.out _ _ (⟨k0, k1, k2⟩) (fun hHeld => ?_)
            clear hK K
            try simp only [Act.put, List.setIfInBounds_toArray, List.set_cons_zero, List.set_cons_succ]
            refine wpAnyH_take (i := 19) (oi := { dst := some 35, op := Op.fieldAddr 24 (Operand.tmp 5) 1, type := 0, pos := "law.go:15", after := #[{ on := 0, ground := Ground.phase }, { on := 1, ground := Ground.phase }, { on := 2, ground := Ground.phase }, { on := 3, ground := Ground.phase }, { on := 4, ground := Ground.phase }, { on := 5, ground := Ground.phase }, { on := 6, ground := Ground.phase }, { on := 7, ground := Ground.phase }, { on := 8, ground := Ground.phase }, { on := 9, ground := Ground.phase }, { on := 10, ground := Ground.phase }, { on := 11, ground := Ground.phase }, { on := 12, ground := Ground.phase }, { on := 13, ground := Ground.phase }, { on := 14, ground := Ground.phase }, { on := 15, ground := Ground.phase }, { on := 16, ground := Ground.phase }, { on := 17, ground := Ground.phase }, { on := 18, ground := Ground.phase }], guard := none }) (v := ?_) rfl (by kernel_rfl) (by kernel_rfl) (by kernel_rfl) (fun _ _ _ h => h) (Or.inl ⟨by rfl, ?_⟩) (by assumption) ?_
            rotate_left 1
            · (intro wS hSw; (try dsimp only at hSw); go_simp <;> with_reducible rfl)
            try simp only [Act.put, List.setIfInBounds_toArray, List.set_cons_zero, List.set_cons_succ]
            refine wpAnyH_ready (rs := [20]) (by kernel_rfl) (by simp) ?_
            refine AllReadyH.cons (o := { dst := none, op := Op.store 22 (Operand.tmp 35) (Operand.tmp 34), type := 0, pos := "law.go:15", after := #[{ on := 19, ground := Ground.data }, { on := 18, ground := Ground.data }, { on := 18, ground := Ground.chain }, { on := 0, ground := Ground.phase }, { on := 1, ground := Ground.phase }, { on := 2, ground := Ground.phase }, { on := 3, ground := Ground.phase }, { on := 4, ground := Ground.phase }, { on := 5, ground := Ground.phase }, { on := 6, ground := Ground.phase }, { on := 7, ground := Ground.phase }, { on := 8, ground := Ground.phase }, { on := 9, ground := Ground.phase }, { on := 10, ground := Ground.phase }, { on := 11, ground := Ground.phase }, { on := 12, ground := Ground.phase }, { on := 13, ground := Ground.phase }, { on := 14, ground := Ground.phase }, { on := 15, ground := Ground.phase }, { on := 16, ground := Ground.phase }, { on := 17, ground := Ground.phase }, { on := 18, ground := Ground.phase }], guard := none }) rfl (fun K hK => ?_) ?_
            · go_simp
              refine hK.out _ _ (⟨(cell_far hng _).trans k0, (cell_far hng _).trans k1, (cell_far hng _).trans k2⟩) (fun hHeld => ?_)
              clear hK K
              try simp only [Act.put, List.setIfInBounds_toArray, List.set_cons_zero, List.set_cons_succ]
              refine wpAnyH_done (by kernel_rfl) (NoPanic.normal ?_) _
              go_wp2_with fail
              go_roundw
              case rel =>
                refine ⟨k + 1, _, by omega, by rw [HK4.out], Lib.hid ⟨cell_same x6, ?_, (cell_ne (by omega)).trans X06.out, by rw [World.frozen?_setCell]; exact xf6, HB6.out.setCell (p := ⟨w.heap.size + 1, 1, none⟩) (Nat.le_refl _) _⟩⟩
                rw [take_snoc' HGET.out, bdc_app, bdc_one]
                have h8 := HO6.out
                exact ownsRow_kept h8 (fun g hg => Below.heap_setCell w6 ⟨w.heap.size + 1, 1, none⟩ _ g (by have := (ownsRow_lt h8 hg).1; simp only; omega))
              case measure => have h1 := HK3.out; have h2 := HK4.out; have h3 := HFL.out; simp [intOf]; omega
            exact AllReadyH.nil
          exact AllReadyH.nil
        exact AllReadyH.nil
      refine AllReadyH.cons (o := { dst := some 33, op := Op.buildSlice 22 1 #[(0, Operand.tmp 32)], type := 22, pos := "law.go:15", after := #[{ on := 16, ground := Ground.data }], guard := none }) rfl (fun K hK => ?_) ?_
      · go_simp
        refine hK.out _ _ (⟨cell_stays (bel_one _ _) p0, cell_stays (bel_one _ _) p1, cell_stays (bel_one _ _) p2⟩) (fun hHeld => ?_)
        clear hK K
        try simp only [Act.put, List.setIfInBounds_toArray, List.set_cons_zero, List.set_cons_succ]
        refine wpAnyH_ready (rs := [1]) (by kernel_rfl) (by simp) ?_
        refine AllReadyH.cons (o := { dst := some 17, op := Op.load 22 (Operand.tmp 16), type := 22, pos := "law.go:15", after := #[{ on := 0, ground := Ground.data }], guard := none }) rfl (fun K hK => ?_) ?_
        · go_simp
          refine hK.out _ _ (⟨cell_stays (bel_one _ _) p0, cell_stays (bel_one _ _) p1, cell_stays (bel_one _ _) p2⟩) (fun hHeld => ?_)
          clear hK K
          try simp only [Act.put, List.setIfInBounds_toArray, List.set_cons_zero, List.set_cons_succ]
          refine wpAnyH_ready (rs := [18]) (by kernel_rfl) (by simp) ?_
          refine AllReadyH.cons (o := { dst := some 34, op := Op.call { callee := Callee.builtin Builtin.append, args := #[Operand.tmp 17, Operand.tmp 33], argTypes := #[22, 22] }, type := 22, pos := "law.go:15", after := #[{ on := 1, ground := Ground.data }, { on := 17, ground := Ground.data }], guard := none }) rfl (fun K hK => ?_) ?_
          · (refine step_app _ rfl (.tmp 17) (.tmp 33) 22 rfl (w.heap.size + 2) 56 j0 _ 3 24 Try.underlying22 hj0 hy0 hy1 hy2 rfl (by decide) (.slice Ao k co) k (bdc (l.take k)) rfl (ownsRow_below HI.out.2.1 (bel_one _ _).drew) (some ⟨wr.heap.size, 0, none⟩) 1 1 [.int .i64 b.x, .int .i64 b.y, .int .i64 b.most] rfl (src_new' wr [.int .i64 b.x, .int .i64 b.y, .int .i64 b.most] _ 1 3 _ rfl rfl (by simp [Value.oneCell'])) (by unfold maxLen; omega) (by omega) (by simp; omega) ?_; intro v6 w6 hown6 hg6 hloc6; have HO6 := Lib.hid hown6; have hbk : ∀ b', b' < w.heap.size + 2 → w6.heap[b']? = wr.heap[b']? := (fun b' h1 => (hg6.block b' (by simp; omega) (fun e => by have h5 := ownsRow_lt HI.out.2.1 e.symm; omega)).trans (Below.heap_alloc wr _ b' (by omega))); have k0 : w6.cell? ⟨g, o + K3, none⟩ = some (.int .i64 b.x) := (World.cell?_of_block (a := ⟨g, o + K3, none⟩) (hbk g (by omega))).trans p0; have k1 : w6.cell? ⟨g, o + (K3 + 1), none⟩ = some (.int .i64 b.y) := (World.cell?_of_block (a := ⟨g, o + (K3 + 1), none⟩) (hbk g (by omega))).trans p1; have k2 : w6.cell? ⟨g, o + (K3 + 2), none⟩ = some (.int .i64 b.most) := (World.cell?_of_block (a := ⟨g, o + (K3 + 2), none⟩) (hbk g (by omega))).trans p2; have hbk2 := hbk (w.heap.size + 1) (by omega); have x6 : w6.cell? ⟨w.heap.size + 1, 1, none⟩ = some (.slice Ao k co) := (World.cell?_of_block (a := ⟨w.heap.size + 1, 1, none⟩) hbk2).trans x1; have xf6 : w6.frozen? ⟨w.heap.size + 1, 1, none⟩ = false := (World.frozen?_of_block (a := ⟨w.heap.size + 1, 1, none⟩) hbk2).trans xf; have X06 : Hid (w6.cell? ⟨w.heap.size + 1, 0, none⟩ = some (.int .i64 n)) := Lib.hid ((World.cell?_of_block (a := ⟨w.heap.size + 1, 0, none⟩) hbk2).trans HI.out.2.2.1); have HB6 : Hid (Below (w.heap.size + 1) W3 w6) := Lib.hid (HI.out.2.2.2.2.trans (((Below.refl _ wr).alloc (by omega) _).drew.trans (grown_below hg6 (by simp; omega) (fun g h => by have := (ownsRow_lt HI.out.2.1 h).1; omega)))); obtain ⟨A6, c6, rfl⟩ := slice_own hown6; clear hown6 hg6 hloc6 hbk hbk2)
            refine hK.out _ _ (⟨k0, k1, k2⟩) (fun hHeld => ?_)
            clear hK K
            try simp only [Act.put, List.setIfInBounds_toArray, List.set_cons_zero, List.set_cons_succ]
            refine wpAnyH_take (i := 19) (oi := { dst := some 35, op := Op.fieldAddr 24 (Operand.tmp 5) 1, type := 0, pos := "law.go:15", after := #[{ on := 0, ground := Ground.phase }, { on := 1, ground := Ground.phase }, { on := 2, ground := Ground.phase }, { on := 3, ground := Ground.phase }, { on := 4, ground := Ground.phase }, { on := 5, ground := Ground.phase }, { on := 6, ground := Ground.phase }, { on := 7, ground := Ground.phase }, { on := 8, ground := Ground.phase }, { on := 9, ground := Ground.phase }, { on := 10, ground := Ground.phase }, { on := 11, ground := Ground.phase }, { on := 12, ground := Ground.phase }, { on := 13, ground := Ground.phase }, { on := 14, ground := Ground.phase }, { on := 15, ground := Ground.phase }, { on := 16, ground := Ground.phase }, { on := 17, ground := Ground.phase }, { on := 18, ground := Ground.phase }], guard := none }) (v := ?_) rfl (by kernel_rfl) (by kernel_rfl) (by kernel_rfl) (fun _ _ _ h => h) (Or.inl ⟨by rfl, ?_⟩) (by assumption) ?_
            rotate_left 1
            · (intro wS hSw; (try dsimp only at hSw); go_simp <;> with_reducible rfl)
            try simp only [Act.put, List.setIfInBounds_toArray, List.set_cons_zero, List.set_cons_succ]
            refine wpAnyH_ready (rs := [20]) (by kernel_rfl) (by simp) ?_
            refine AllReadyH.cons (o := { dst := none, op := Op.store 22 (Operand.tmp 35) (Operand.tmp 34), type := 0, pos := "law.go:15", after := #[{ on := 19, ground := Ground.data }, { on := 18, ground := Ground.data }, { on := 18, ground := Ground.chain }, { on := 0, ground := Ground.phase }, { on := 1, ground := Ground.phase }, { on := 2, ground := Ground.phase }, { on := 3, ground := Ground.phase }, { on := 4, ground := Ground.phase }, { on := 5, ground := Ground.phase }, { on := 6, ground := Ground.phase }, { on := 7, ground := Ground.phase }, { on := 8, ground := Ground.phase }, { on := 9, ground := Ground.phase }, { on := 10, ground := Ground.phase }, { on := 11, ground := Ground.phase }, { on := 12, ground := Ground.phase }, { on := 13, ground := Ground.phase }, { on := 14, ground := Ground.phase }, { on := 15, ground := Ground.phase }, { on := 16, ground := Ground.phase }, { on := 17, ground := Ground.phase }, { on := 18, ground := Ground.phase }], guard := none }) rfl (fun K hK => ?_) ?_
            · go_simp
              refine hK.out _ _ (⟨(cell_far hng _).trans k0, (cell_far hng _).trans k1, (cell_far hng _).trans k2⟩) (fun hHeld => ?_)
              clear hK K
              try simp only [Act.put, List.setIfInBounds_toArray, List.set_cons_zero, List.set_cons_succ]
              refine wpAnyH_done (by kernel_rfl) (NoPanic.normal ?_) _
              go_wp2_with fail
              go_roundw
              case rel =>
                refine ⟨k + 1, _, by omega, by rw [HK4.out], Lib.hid ⟨cell_same x6, ?_, (cell_ne (by omega)).trans X06.out, by rw [World.frozen?_setCell]; exact xf6, HB6.out.setCell (p := ⟨w.heap.size + 1, 1, none⟩) (Nat.le_refl _) _⟩⟩
                rw [take_snoc' HGET.out, bdc_app, bdc_one]
                have h8 := HO6.out
                exact ownsRow_kept h8 (fun g hg => Below.heap_setCell w6 ⟨w.heap.size + 1, 1, none⟩ _ g (by have := (ownsRow_lt h8 hg).1; simp only; omega))
              case measure => have h1 := HK3.out; have h2 := HK4.out; have h3 := HFL.out; simp [intOf]; omega
            exact AllReadyH.nil
          exact AllReadyH.nil
        exact AllReadyH.nil
      exact AllReadyH.nil
    · have hl2 : ¬ ((K3 + 2 : Nat) : Int) < ((flat3 l).length : Int) := by omega
      obtain rfl : k = l.length := by omega
      have x0 := HI.out.2.2.1
      have hr' : ∀ j, wr.cell? ⟨w.heap.size, j, none⟩ = #[Value.int .i64 0, Value.slice none 0 0][j]? := fun j => (World.cell?_of_block (a := ⟨w.heap.size, j, none⟩) (HI.out.2.2.2.2.block w.heap.size (by omega))).trans (hr j)
      have hrf' : ∀ j, wr.frozen? ⟨w.heap.size, j, none⟩ = false := fun j => (World.frozen?_of_block (a := ⟨w.heap.size, j, none⟩) (HI.out.2.2.2.2.block w.heap.size (by omega))).trans (hrf j)
      have HOW := Lib.hid HI.out.2.1
      clear hr hrf
      go_wp2_with fail
      refine bodyPost_ret (v := .agg #[.int .i64 n, .slice Ao l.length co]) (by simp [results, Try.results41, go_sem, hr']) rfl ?_
      refine ⟨_, rfl, ?_, bel_set (bel_set HB0.out (Nat.le_refl _) _) (Nat.le_refl _) _⟩
      have h5 : ∀ (W : World), (∀ g, w.heap.size + 2 ≤ g → g < wr.heap.size → W.heap[g]? = wr.heap[g]?) → IsBds W (.slice Ao l.length co) l := by
        intro W hW
        have h6 := ownsRow_kept (w' := W) HOW.out (fun g hg => hW g (ownsRow_lt HOW.out hg).1 (ownsRow_lt HOW.out hg).2)
        rw [List.take_length] at h6
        exact sl_of_means (bds_mean W l) (Below.refl _ _) h6
      refine h5 _ (fun g h1 h2 => ?_)
      rw [Below.heap_setCell _ _ _ _ (by simp only; omega), Below.heap_setCell _ _ _ _ (by simp only; omega)]
end Go.Proofs.Ytgecbjjcjemcgaa
