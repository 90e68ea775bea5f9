/- The tightest bound of two unknowns, as the reference finds it. -/
import Derived.Test.YtgecbjjcjemcgaaDgreat
import Derived.Test.YtgecbjjcjemcgaaDtab
import Derived.StillTailTactics
namespace Go.Proofs.Ytgecbjjcjemcgaa
open Go.RowKit

def bools (d : List Bool) : List Value := d.map Value.bool
def BRow (W : World) (g : Nat) (d : List Bool) : Prop := W.heap[g]? = some (.cells (bools d).toArray 4 (0, 0))
theorem bools_get (d : List Bool) (i : Nat) (h : i < d.length) : (bools d)[i]? = some (.bool (gb d i)) := by
  unfold bools; rw [List.getElem?_map, gb_at h]; rfl
theorem bools_set (d : List Bool) (i : Nat) (v : Bool) : (bools d).set i (.bool v) = bools (d.set i v) := by
  unfold bools; rw [List.map_set]
section
variable {W W' : World} {g : Nat} {d : List Bool}
theorem BRow.cell (h : BRow W g d) {i : Nat} (hi : i < d.length) : W.cell? ⟨g, i, none⟩ = some (.bool (gb d i)) := by rw [blk_cell h]; exact bools_get d i hi
theorem BRow.frozen (h : BRow W g d) (i : Nat) : W.frozen? ⟨g, i, none⟩ = false := blk_frozen h i
theorem BRow.lt (h : BRow W g d) : g < W.heap.size := blk_lt h
theorem BRow.set (h : BRow W g d) (i : Nat) (v : Bool) : BRow (W.setCell ⟨g, i, none⟩ (.bool v)) g (d.set i v) := by
  unfold BRow; rw [blk_set h, bools_set]
theorem BRow.kept (h : BRow W g d) (hk : W'.heap[g]? = W.heap[g]?) : BRow W' g d := hk.trans h
theorem BRow.stays (h : BRow W g d) (hb : Below W.heap.size W W') : BRow W' g d := h.kept (hb.block g h.lt)
theorem BRow.far (h : BRow W g d) {b i : Nat} (hn : b ≠ g) (v : Value) : BRow (W.setCell ⟨b, i, none⟩ v) g d := h.kept (Below.heap_setCell W ⟨b, i, none⟩ v g (Ne.symm hn))
end
theorem info_boolT : (Try.prog.info? 4).map (fun i => (i.zero, i.size, i.bytes)) = some (some (.bool false), 1, 1) := by kernel_rfl
theorem make_bools (n : Nat) (h : n ≤ 64) (w : World) : (Instr.makeSlice 114 (.int .i64 (n : Int)) (.int .i64 (n : Int))).run Try.prog w = .ok (.slice (some ⟨w.heap.size, 0, none⟩) n n) (w.alloc (.cells (bools (List.replicate n false)).toArray 4)) := by
  obtain ⟨i0, hi0, hz0, hz1, hz2⟩ := info_parts info_boolT
  have := run_make (P := Try.prog) w 114 4 i0 _ Try.underlying114 hi0 hz0 .i64 .i64 (n : Int) (n : Int) (by omega) (Int.le_refl _) (by rw [hz2]; omega) (by omega)
  rw [this, hz1]
  simp only [Int.toNat_natCast, Nat.mul_one, made_rep (.bool false) rfl n]
  unfold bools
  rw [List.map_replicate]

/-- how large the sums get -/
def mag (k : Nat) (d : List Int) : Prop := ∀ i, -((k : Int) * 1125899906842624) ≤ gd d i ∧ gd d i ≤ (k : Int) * 1125899906842624
theorem mag_more {k l : Nat} {d : List Int} (h : mag k d) (hl : k ≤ l) : mag l d := fun i => by have := h i; omega
theorem mag_set {k : Nat} {d : List Int} (h : mag k d) {i : Nat} (hi : i < d.length) {v : Int} (h1 : -((k : Int) * 1125899906842624) ≤ v) (h2 : v ≤ (k : Int) * 1125899906842624) : mag k (d.set i v) := by
  intro j
  by_cases hij : i = j
  · subst hij; rw [gd_same _ _ _ hi]; exact ⟨h1, h2⟩
  · rw [gd_ne _ _ hij]; exact h j
theorem tstep_len (s : Tx) (b : Ed) : (tstep s b).h.length = s.h.length ∧ (tstep s b).d.length = s.d.length := by
  unfold tstep; split <;> simp
theorem trelax_len (bs : List Ed) (s : Tx) : ∀ k, (trelax bs s k).h.length = s.h.length ∧ (trelax bs s k).d.length = s.d.length := by
  intro k
  induction k with
  | zero => exact ⟨rfl, rfl⟩
  | succ k ih =>
    cases hb : bs[k]? with
    | none => simp only [trelax, hb]; exact ih
    | some b => rw [trelax_succ hb]; have := tstep_len (trelax bs s k) b; omega
theorem truns_len (n : Nat) (bs : List Ed) (y : Nat) : ∀ r, (truns n bs y r).h.length = n ∧ (truns n bs y r).d.length = n := by
  intro r
  induction r with
  | zero => simp [truns, tinit]
  | succ r ih => simp only [truns]; have := trelax_len bs (truns n bs y r) bs.length; omega
theorem trelax_mag {n : Nat} {bs : List Bd} (hg : good n bs) {s : Tx} {K : Nat} (hl : s.d.length = n) (h : mag K s.d) : ∀ k, mag (K + k) (trelax (bs.map ed) s k).d := by
  intro k
  induction k with
  | zero => exact h
  | succ k ih =>
    cases hb : (bs.map ed)[k]? with
    | none => simp only [trelax, hb]; exact mag_more ih (by omega)
    | some b =>
      rw [trelax_succ hb]
      obtain ⟨c, hc, rfl⟩ := List.mem_map.1 (List.mem_of_getElem? hb)
      have hgc := hg c hc
      unfold tstep
      split
      · have h2 := ih (ed c).y
        have hm : (ed c).m = c.most := rfl
        refine mag_set (mag_more ih (by omega)) ?_ ?_ ?_
        · rw [(trelax_len _ _ k).2, hl]; simp only [ed]; omega
        · rw [hm]; omega
        · rw [hm]; omega
      · exact mag_more ih (by omega)
theorem truns_mag {n : Nat} {bs : List Bd} (hg : good n bs) (y : Nat) : ∀ r, mag (r * bs.length) (truns n (bs.map ed) y r).d := by
  intro r
  induction r with
  | zero =>
    intro i
    have : gd (List.replicate n (0 : Int)) i = 0 := by
      unfold gd
      rw [List.getD_eq_getElem?_getD]
      by_cases hi : i < n
      · rw [List.getElem?_replicate_of_lt hi]; rfl
      · rw [List.getElem?_eq_none (by simp; omega)]; rfl
    simp only [truns, tinit, this]; omega
  | succ r ih =>
    simp only [truns]
    have := trelax_mag hg (truns_len n (bs.map ed) y r).2 ih (bs.map ed).length
    rw [List.length_map] at this
    rw [Nat.succ_mul, List.length_map]
    exact this
theorem tstep_yes {s : Tx} {b : Ed} (h1 : gb s.h b.y = true) (h2 : gb s.h b.x = false ∨ gd s.d b.y + b.m < gd s.d b.x) : tstep s b = ⟨s.h.set b.x true, s.d.set b.x (gd s.d b.y + b.m)⟩ := by unfold tstep; rw [if_pos ⟨h1, h2⟩]
theorem tstep_no {s : Tx} {b : Ed} (h : gb s.h b.y = false ∨ (gb s.h b.x = true ∧ ¬ gd s.d b.y + b.m < gd s.d b.x)) : tstep s b = s := by
  unfold tstep
  rw [if_neg]
  rintro ⟨h1, h2⟩
  rcases h with h | ⟨h3, h4⟩
  · rw [h1] at h; cases h
  · rcases h2 with h2 | h2
    · rw [h3] at h2; cases h2
    · exact h4 h2

set_option maxRecDepth 100000 in
set_option maxHeartbeats 4000000 in
theorem rtightest_any (n : Nat) (h16 : 1 ≤ n ∧ n ≤ 6) (bs : List Bd) (v : Value) (x y : Nat) (hx : x < n) (hy : y < n) (w : World) (hl : IsBds w v bs) (hg : good n bs) (hlen : bs.length ≤ 256) :
    Calls Try.prog 50 #[zoneV n v, .int .i64 x, .int .i64 y] w fun e W => e = .returned (.tuple #[.int .i64 (gd (truns n (bs.map ed) y n).d x), .bool (gb (truns n (bs.map ed) y n).h x)]) ∧ Below w.heap.size w W := by
  unfold zoneV
  have HL := Lib.hid hl
  have HG := Lib.hid hg
  obtain ⟨A, c, rfl, h1, h2, hat⟩ := hl
  have hn := len_i64 h1 h2
  have HA := Lib.hid hat
  clear hat h1 h2 hg
  obtain ⟨hn1, hn6⟩ := h16
  have hmk := fun W => make_ints n (by omega) W
  have hmb := fun W => make_bools n (by omega) W
  have hxi : (x : Int) < (n : Int) := by omega
  have hyi : (y : Int) < (n : Int) := by omega
  have hB0 : BRow (((w.alloc (.cells #[.int .i64 (n : Int), .slice A bs.length c] 24)).alloc (.cells (bools (List.replicate n false)).toArray 4)).alloc (.cells (ints (List.replicate n 0)).toArray 3)) (w.heap.size + 1) (List.replicate n false) := BRow.stays (W := (w.alloc (.cells #[.int .i64 (n : Int), .slice A bs.length c] 24)).alloc (.cells (bools (List.replicate n false)).toArray 4)) (heap_new' _ _ _ (by simp)) (bel_one _ _)
  have hfz := hB0.frozen y
  have hcl := hB0.cell (i := y) (by simpa using hy)
  have HB0 := Lib.hid hB0
  clear hB0
  go_enter Try.func50, Try.ntmps50
  go_wp2_with fail
  refine wp_gen ?_
  intro W0 hW0
  have z0 : W0.cell? ⟨w.heap.size, 0, none⟩ = some (.int .i64 (n : Int)) := by rw [hW0]; exact cell_stays (bel_al (bel_one _ _) _) ((new_cells (Below.refl _ _)).1 0)
  have z1 : W0.cell? ⟨w.heap.size, 1, none⟩ = some (.slice A bs.length c) := by rw [hW0]; exact cell_stays (bel_al (bel_one _ _) _) ((new_cells (Below.refl _ _)).1 1)
  have hb0 : Below w.heap.size w W0 := by rw [hW0]; exact bel_al (bel_al (bel_one _ _) _) _
  have r0 : BRow W0 (w.heap.size + 1) ((List.replicate n false).set y true) := by
    rw [hW0]
    rw [bools_set]
    exact BRow.stays (W := (w.alloc (.cells #[.int .i64 (n : Int), .slice A bs.length c] 24)).alloc (.cells (bools ((List.replicate n false).set y true)).toArray 4)) (heap_new' _ _ _ (by simp)) (bel_one _ _)
  have d0 : Row W0 (w.heap.size + 1 + 1) (List.replicate n 0) := by rw [hW0]; exact heap_new' _ _ _ (by simp)
  have HZ := Lib.hid (And.intro z0 (And.intro z1 (And.intro hb0 (And.intro r0 d0))))
  clear hW0 z0 z1 hb0 r0 d0 hfz hcl HB0
  go_loopw [10] (fun i wr => ∃ r : Nat, r ≤ n ∧ i = .int .i64 r ∧ Hid (wr.cell? ⟨w.heap.size, 0, none⟩ = some (.int .i64 (n : Int)) ∧ wr.cell? ⟨w.heap.size, 1, none⟩ = some (.slice A bs.length c) ∧ Below w.heap.size w wr ∧ BRow wr (w.heap.size + 1) (truns n (bs.map ed) y r).h ∧ Row wr (w.heap.size + 1 + 1) (truns n (bs.map ed) y r).d)) (fun i _ => n - (intOf i).toNat)
  case atStart => exact ⟨0, by omega, rfl, HZ.out.1, HZ.out.2.1, HZ.out.2.2.1, HZ.out.2.2.2.1, HZ.out.2.2.2.2⟩
  case round =>
    obtain ⟨r, hr, rfl, HI⟩ := hrel
    have z0 := HI.out.1
    have z1 := HI.out.2.1
    by_cases hlt : r < n
    · have hlt' : (r : Int) < (n : Int) := by omega
      obtain ⟨s, hs⟩ : ∃ s : Tx, s = truns n (bs.map ed) y r := ⟨_, rfl⟩
      have hsh : s.h.length = n := by rw [hs]; exact (truns_len _ _ _ r).1
      have hsd : s.d.length = n := by rw [hs]; exact (truns_len _ _ _ r).2
      have HMAG : Hid (∀ k, mag (r * bs.length + k) (trelax (bs.map ed) s k).d) := Lib.hid (by rw [hs]; exact trelax_mag HG.out (truns_len _ _ _ r).2 (truns_mag HG.out y r))
      have hmul : r * bs.length ≤ 6 * 256 := Nat.mul_le_mul (by omega) hlen
      have HNX : Hid (truns n (bs.map ed) y (r + 1) = trelax (bs.map ed) s bs.length) := Lib.hid (by rw [hs]; simp only [truns, List.length_map])
      have HR0 : Hid (BRow wr (w.heap.size + 1) s.h ∧ Row wr (w.heap.size + 1 + 1) s.d) := Lib.hid (by rw [hs]; exact HI.out.2.2.2)
      clear hs
      go_wp2_with fail
      go_loopw [11] (fun i wr' => ∃ k : Nat, k ≤ bs.length ∧ i = .int .i64 k ∧ Hid (wr'.cell? ⟨w.heap.size, 0, none⟩ = some (.int .i64 (n : Int)) ∧ wr'.cell? ⟨w.heap.size, 1, none⟩ = some (.slice A bs.length c) ∧ Below w.heap.size w wr' ∧ BRow wr' (w.heap.size + 1) (trelax (bs.map ed) s k).h ∧ Row wr' (w.heap.size + 1 + 1) (trelax (bs.map ed) s k).d)) (fun i _ => bs.length - (intOf i).toNat)
      case atStart => exact ⟨0, Nat.zero_le _, rfl, z0, z1, HI.out.2.2.1, HR0.out.1, HR0.out.2⟩
      case round =>
        obtain ⟨k, hk, rfl, HJ⟩ := hrel
        replace z0 := HJ.out.1
        replace z1 := HJ.out.2.1
        by_cases hlt2 : k < bs.length
        · have hget := List.getElem?_eq_getElem hlt2
          obtain ⟨bk, hbk⟩ : ∃ b, b = bs[k] := ⟨_, rfl⟩
          rw [← hbk] at hget
          have HE : Hid ((bs.map ed)[k]? = some (ed bk)) := Lib.hid (by rw [List.getElem?_map, hget]; rfl)
          obtain ⟨gx0, gx1, gy0, gy1, gm0, gm1⟩ := HG.out bk (by rw [hbk]; exact List.getElem_mem hlt2)
          obtain ⟨b, o, rfl, p0, p1, p2⟩ := HA.out k bk hget
          clear hget hbk
          have hwb := World.block_lt_of_cell? w _ p0
          replace p0 := cell_stays HJ.out.2.2.1 p0
          replace p1 := cell_stays HJ.out.2.2.1 p1
          replace p2 := cell_stays HJ.out.2.2.1 p2
          obtain ⟨x1, y1, m⟩ := bk
          simp only [ed] at HE
          simp only at gx0 gx1 gy0 gy1 gm0 gm1 p0 p1 p2 hwb
          obtain ⟨X, rfl⟩ := Int.eq_ofNat_of_zero_le gx0
          obtain ⟨Y, rfl⟩ := Int.eq_ofNat_of_zero_le gy0
          simp only [Int.toNat_natCast] at HE
          have hlk := HMAG.out k
          have hlenk := trelax_len (bs.map ed) s k
          obtain ⟨S, hS⟩ : ∃ S, S = trelax (bs.map ed) s k := ⟨_, rfl⟩
          have HS : Hid (trelax (bs.map ed) s (k + 1) = tstep S ⟨X, Y, m⟩) := Lib.hid (by rw [trelax_succ HE.out, hS])
          rw [← hS] at HJ hlk hlenk
          clear hS
          have hXd : X < S.d.length := by omega
          have hYd : Y < S.d.length := by omega
          have rx := HJ.out.2.2.2.2.cell hXd
          have ry := HJ.out.2.2.2.2.cell hYd
          have bx := HJ.out.2.2.2.1.cell (i := X) (by omega)
          have bY := HJ.out.2.2.2.1.cell (i := Y) (by omega)
          have hly := hlk Y
          obtain ⟨dx, hdx⟩ : ∃ a, a = gd S.d X := ⟨_, rfl⟩
          obtain ⟨dy, hdy⟩ : ∃ a, a = gd S.d Y := ⟨_, rfl⟩
          obtain ⟨tx, htx⟩ : ∃ a, a = gb S.h X := ⟨_, rfl⟩
          obtain ⟨ty, hty⟩ : ∃ a, a = gb S.h Y := ⟨_, rfl⟩
          have HDX := Lib.hid hdx
          have HDY := Lib.hid hdy
          have HTX := Lib.hid htx
          have HTY := Lib.hid hty
          rw [← hdx] at rx
          rw [← hdy] at ry hly
          rw [← htx] at bx
          rw [← hty] at bY
          clear hlk hdx hdy htx hty
          have hw : IntKind.i64.wrap (dy + m) = dy + m := IntWalk.i64_in _ (by omega)
          have hbl := World.block_lt_of_cell? wr _ p0
          have hzl := World.block_lt_of_cell? wr _ z0
          have hg1 := HJ.out.2.2.2.2.lt
          simp only at hbl hzl
          have hk' : (k : Int) < (bs.length : Int) := by omega
          have hXi : (X : Int) < (n : Int) := by omega
          have hYi : (Y : Int) < (n : Int) := by omega
          go_wp2_with fail
          refine wp_gen ?_
          intro W1 hW1
          have hb1 : Below wr.heap.size wr W1 := by rw [hW1]; exact bel_one _ _
          have y0 : W1.cell? ⟨wr.heap.size, 0, none⟩ = some (.int .i64 (X : Int)) := by rw [hW1]; exact (new_cells (Below.refl _ _)).1 0
          have y1 : W1.cell? ⟨wr.heap.size, 1, none⟩ = some (.int .i64 (Y : Int)) := by rw [hW1]; exact (new_cells (Below.refl _ _)).1 1
          have y2 : W1.cell? ⟨wr.heap.size, 2, none⟩ = some (.int .i64 m) := by rw [hW1]; exact (new_cells (Below.refl _ _)).1 2
          clear hW1
          have q0 := cell_stays hb1 z0
          have q1 := cell_stays hb1 z1
          replace rx := cell_stays hb1 rx
          replace ry := cell_stays hb1 ry
          replace bx := cell_stays hb1 bx
          replace bY := cell_stays hb1 bY
          have hrow1 := HJ.out.2.2.2.2.stays hb1
          have hbrow1 := HJ.out.2.2.2.1.stays hb1
          have hbel1 := bel_tr HJ.out.2.2.1 hb1
          clear p0 p1 p2
          have HNO : Hid ((ty = false ∨ (tx = true ∧ ¬ dy + m < dx)) → tstep S ⟨X, Y, m⟩ = S) := Lib.hid (fun h => tstep_no (by simp only; rw [← HDX.out, ← HDY.out, ← HTX.out, ← HTY.out]; exact h))
          have HYES : Hid (ty = true → (tx = false ∨ dy + m < dx) → tstep S ⟨X, Y, m⟩ = ⟨S.h.set X true, S.d.set X (dy + m)⟩) := Lib.hid (fun h1 h2 => by have h := tstep_yes (s := S) (b := ⟨X, Y, m⟩) (by simp only; rw [← HTY.out]; exact h1) (by simp only; rw [← HDX.out, ← HDY.out, ← HTX.out]; exact h2); simp only at h; rw [← HDY.out] at h; exact h)
          cases ty with
          | false =>
            have HN := Lib.hid (HNO.out (.inl rfl))
            refine wp_region_F (fun W => W.cell? ⟨wr.heap.size, 0, none⟩ = some (.int .i64 (X : Int)) ∧ W.cell? ⟨wr.heap.size, 1, none⟩ = some (.int .i64 (Y : Int)) ∧ W.cell? ⟨wr.heap.size, 2, none⟩ = some (.int .i64 m) ∧ W.cell? ⟨w.heap.size + 1, Y, none⟩ = some (.bool false)) (by repeat (first | exact grows_cell _ _ _ | exact grows_true | refine grows_and ?_ ?_)) (by kernel_rfl) (by kernel_rfl) ?hF ?_; (case hF => (first | exact ⟨‹_›, ‹_›⟩ | (go_simp; done) | (simp [*]; done))); intro hne hxx; have hG : Hid (Grows (fun W => W.cell? ⟨wr.heap.size, 0, none⟩ = some (.int .i64 (X : Int)) ∧ W.cell? ⟨wr.heap.size, 1, none⟩ = some (.int .i64 (Y : Int)) ∧ W.cell? ⟨wr.heap.size, 2, none⟩ = some (.int .i64 m) ∧ W.cell? ⟨w.heap.size + 1, Y, none⟩ = some (.bool false))) := (by repeat (first | exact grows_cell _ _ _ | exact grows_true | refine grows_and ?_ ?_)); (repeat (go_big_quiet_step (fail))); clear hG hxx hne; refine wpQuiet_nil ?_; rintro _ ⟨⟨w', hb', hF'⟩, rfl⟩
            clear hF'
            go_wp2_with fail
            go_roundw
            case rel => exact ⟨k + 1, by omega, by go_num, Lib.hid ⟨cell_stays hb' q0, cell_stays hb' q1, bel_tr hbel1 hb', by rw [HS.out, HN.out]; exact hbrow1.stays hb', by rw [HS.out, HN.out]; exact hrow1.stays hb'⟩⟩
            case measure => simp [intOf]; omega
          | true =>
            cases tx with
            | false =>
              have HY := Lib.hid (HYES.out rfl (.inl rfl))
              refine wp_region_F (fun W => W.cell? ⟨wr.heap.size, 0, none⟩ = some (.int .i64 (X : Int)) ∧ W.cell? ⟨wr.heap.size, 1, none⟩ = some (.int .i64 (Y : Int)) ∧ W.cell? ⟨wr.heap.size, 2, none⟩ = some (.int .i64 m) ∧ W.cell? ⟨w.heap.size + 1, Y, none⟩ = some (.bool true) ∧ W.cell? ⟨w.heap.size + 1, X, none⟩ = some (.bool false)) (by repeat (first | exact grows_cell _ _ _ | exact grows_true | refine grows_and ?_ ?_)) (by kernel_rfl) (by kernel_rfl) ?hF ?_; (case hF => (first | exact ⟨‹_›, ‹_›⟩ | (go_simp; done) | (simp [*]; done))); intro hne hxx; have hG : Hid (Grows (fun W => W.cell? ⟨wr.heap.size, 0, none⟩ = some (.int .i64 (X : Int)) ∧ W.cell? ⟨wr.heap.size, 1, none⟩ = some (.int .i64 (Y : Int)) ∧ W.cell? ⟨wr.heap.size, 2, none⟩ = some (.int .i64 m) ∧ W.cell? ⟨w.heap.size + 1, Y, none⟩ = some (.bool true) ∧ W.cell? ⟨w.heap.size + 1, X, none⟩ = some (.bool false))) := (by repeat (first | exact grows_cell _ _ _ | exact grows_true | refine grows_and ?_ ?_)); (repeat (go_big_quiet_step (fail))); clear hG hxx hne; refine wpQuiet_nil ?_; rintro _ ⟨⟨w', hb', hF'⟩, rfl⟩
              clear hF'
              replace q0 := cell_stays hb' q0
              replace q1 := cell_stays hb' q1
              replace y0 := cell_stays hb' y0
              replace y1 := cell_stays hb' y1
              replace y2 := cell_stays hb' y2
              replace rx := cell_stays hb' rx
              replace ry := cell_stays hb' ry
              replace bx := cell_stays hb' bx
              replace hrow1 := hrow1.stays hb'
              replace hbrow1 := hbrow1.stays hb'
              replace hbel1 := bel_tr hbel1 hb'
              have f1 := hbrow1.frozen X
              have hwr : wr.heap.size ≠ w.heap.size + 1 := by have := HJ.out.2.2.2.2.lt; omega
              clear hb'
              go_wp2_with fail
              refine wp_gen ?_
              intro W2 hW2
              have hne1 : w.heap.size + 1 ≠ w.heap.size := by omega
              have hne2 : w.heap.size + 1 ≠ w.heap.size + 1 + 1 := by omega
              have hrow2 : Row W2 (w.heap.size + 1 + 1) S.d := by rw [hW2]; exact hrow1.far hne2 _
              have hbrow2 : BRow W2 (w.heap.size + 1) (S.h.set X true) := by rw [hW2]; exact hbrow1.set X true
              have hbel2 : Below w.heap.size w W2 := by rw [hW2]; exact bel_set hbel1 (by omega) _
              replace y0 : W2.cell? ⟨wr.heap.size, 0, none⟩ = some (.int .i64 (X : Int)) := by rw [hW2, cell_far (Ne.symm hwr)]; exact y0
              replace y1 : W2.cell? ⟨wr.heap.size, 1, none⟩ = some (.int .i64 (Y : Int)) := by rw [hW2, cell_far (Ne.symm hwr)]; exact y1
              replace y2 : W2.cell? ⟨wr.heap.size, 2, none⟩ = some (.int .i64 m) := by rw [hW2, cell_far (Ne.symm hwr)]; exact y2
              replace rx : W2.cell? ⟨w.heap.size + 1 + 1, X, none⟩ = some (.int .i64 dx) := by rw [hW2, cell_far hne2]; exact rx
              replace ry : W2.cell? ⟨w.heap.size + 1 + 1, Y, none⟩ = some (.int .i64 dy) := by rw [hW2, cell_far hne2]; exact ry
              replace q0 : W2.cell? ⟨w.heap.size, 0, none⟩ = some (.int .i64 (n : Int)) := by rw [hW2, cell_far hne1]; exact q0
              replace q1 : W2.cell? ⟨w.heap.size, 1, none⟩ = some (.slice (some ⟨b, o, none⟩) bs.length c) := by rw [hW2, cell_far hne1]; exact q1
              clear hW2 hrow1 hbrow1 hbel1 hb1 f1
              have f2 := hrow2.frozen X
              go_still_tail 12, (by kernel_rfl)
              change wpList _ _ _ _ _ W2.drew
              go_wp2_with fail
              go_roundw
              case rel =>
                have hne : w.heap.size + 1 + 1 ≠ w.heap.size := by omega
                have c0 : (W2.setCell ⟨w.heap.size + 1 + 1, X, none⟩ (.int .i64 (dy + m))).cell? ⟨w.heap.size, 0, none⟩ = some (.int .i64 (n : Int)) := by rw [cell_far hne]; exact q0
                have c1 : (W2.setCell ⟨w.heap.size + 1 + 1, X, none⟩ (.int .i64 (dy + m))).cell? ⟨w.heap.size, 1, none⟩ = some (.slice (some ⟨b, o, none⟩) bs.length c) := by rw [cell_far hne]; exact q1
                have hr3 := hrow2.set X (dy + m)
                have hr4 := hbrow2.far (b := w.heap.size + 1 + 1) (i := X) (Ne.symm hne2) (.int .i64 (dy + m))
                exact ⟨k + 1, by omega, by go_num, Lib.hid ⟨c0, c1, (bel_set hbel2 (by omega) _).drew, by rw [HS.out, HY.out]; exact hr4, by rw [HS.out, HY.out]; exact hr3⟩⟩
              case measure => simp [intOf]; omega
            | true =>
              by_cases hc : dy + m < dx
              · have HY := Lib.hid (HYES.out rfl (.inr hc))
                have hcd : decide (dy + m < dx) = true := by simpa using hc
                refine wp_region_F (fun W => W.cell? ⟨wr.heap.size, 0, none⟩ = some (.int .i64 (X : Int)) ∧ W.cell? ⟨wr.heap.size, 1, none⟩ = some (.int .i64 (Y : Int)) ∧ W.cell? ⟨wr.heap.size, 2, none⟩ = some (.int .i64 m) ∧ W.cell? ⟨w.heap.size + 1, Y, none⟩ = some (.bool true) ∧ W.cell? ⟨w.heap.size + 1, X, none⟩ = some (.bool true) ∧ W.cell? ⟨w.heap.size + 1 + 1, Y, none⟩ = some (.int .i64 dy) ∧ W.cell? ⟨w.heap.size + 1 + 1, X, none⟩ = some (.int .i64 dx)) (by repeat (first | exact grows_cell _ _ _ | exact grows_true | refine grows_and ?_ ?_)) (by kernel_rfl) (by kernel_rfl) ?hF ?_; (case hF => (first | exact ⟨‹_›, ‹_›⟩ | (go_simp; done) | (simp [*]; done))); intro hne hxx; have hG : Hid (Grows (fun W => W.cell? ⟨wr.heap.size, 0, none⟩ = some (.int .i64 (X : Int)) ∧ W.cell? ⟨wr.heap.size, 1, none⟩ = some (.int .i64 (Y : Int)) ∧ W.cell? ⟨wr.heap.size, 2, none⟩ = some (.int .i64 m) ∧ W.cell? ⟨w.heap.size + 1, Y, none⟩ = some (.bool true) ∧ W.cell? ⟨w.heap.size + 1, X, none⟩ = some (.bool true) ∧ W.cell? ⟨w.heap.size + 1 + 1, Y, none⟩ = some (.int .i64 dy) ∧ W.cell? ⟨w.heap.size + 1 + 1, X, none⟩ = some (.int .i64 dx))) := (by repeat (first | exact grows_cell _ _ _ | exact grows_true | refine grows_and ?_ ?_)); (repeat (go_big_quiet_step (fail))); clear hG hxx hne; refine wpQuiet_nil ?_; rintro _ ⟨⟨w', hb', hF'⟩, rfl⟩
                clear hF'
                replace q0 := cell_stays hb' q0
                replace q1 := cell_stays hb' q1
                replace y0 := cell_stays hb' y0
                replace y1 := cell_stays hb' y1
                replace y2 := cell_stays hb' y2
                replace rx := cell_stays hb' rx
                replace ry := cell_stays hb' ry
                replace bx := cell_stays hb' bx
                replace hrow1 := hrow1.stays hb'
                replace hbrow1 := hbrow1.stays hb'
                replace hbel1 := bel_tr hbel1 hb'
                have f1 := hbrow1.frozen X
                have hwr : wr.heap.size ≠ w.heap.size + 1 := by have := HJ.out.2.2.2.2.lt; omega
                clear hb'
                go_wp2_with fail
                refine wp_gen ?_
                intro W2 hW2
                have hne1 : w.heap.size + 1 ≠ w.heap.size := by omega
                have hne2 : w.heap.size + 1 ≠ w.heap.size + 1 + 1 := by omega
                have hrow2 : Row W2 (w.heap.size + 1 + 1) S.d := by rw [hW2]; exact hrow1.far hne2 _
                have hbrow2 : BRow W2 (w.heap.size + 1) (S.h.set X true) := by rw [hW2]; exact hbrow1.set X true
                have hbel2 : Below w.heap.size w W2 := by rw [hW2]; exact bel_set hbel1 (by omega) _
                replace y0 : W2.cell? ⟨wr.heap.size, 0, none⟩ = some (.int .i64 (X : Int)) := by rw [hW2, cell_far (Ne.symm hwr)]; exact y0
                replace y1 : W2.cell? ⟨wr.heap.size, 1, none⟩ = some (.int .i64 (Y : Int)) := by rw [hW2, cell_far (Ne.symm hwr)]; exact y1
                replace y2 : W2.cell? ⟨wr.heap.size, 2, none⟩ = some (.int .i64 m) := by rw [hW2, cell_far (Ne.symm hwr)]; exact y2
                replace rx : W2.cell? ⟨w.heap.size + 1 + 1, X, none⟩ = some (.int .i64 dx) := by rw [hW2, cell_far hne2]; exact rx
                replace ry : W2.cell? ⟨w.heap.size + 1 + 1, Y, none⟩ = some (.int .i64 dy) := by rw [hW2, cell_far hne2]; exact ry
                replace q0 : W2.cell? ⟨w.heap.size, 0, none⟩ = some (.int .i64 (n : Int)) := by rw [hW2, cell_far hne1]; exact q0
                replace q1 : W2.cell? ⟨w.heap.size, 1, none⟩ = some (.slice (some ⟨b, o, none⟩) bs.length c) := by rw [hW2, cell_far hne1]; exact q1
                clear hW2 hrow1 hbrow1 hbel1 hb1 f1
                have f2 := hrow2.frozen X
                go_still_tail 12, (by kernel_rfl)
                change wpList _ _ _ _ _ W2.drew
                go_wp2_with fail
                go_roundw
                case rel =>
                  have hne : w.heap.size + 1 + 1 ≠ w.heap.size := by omega
                  have c0 : (W2.setCell ⟨w.heap.size + 1 + 1, X, none⟩ (.int .i64 (dy + m))).cell? ⟨w.heap.size, 0, none⟩ = some (.int .i64 (n : Int)) := by rw [cell_far hne]; exact q0
                  have c1 : (W2.setCell ⟨w.heap.size + 1 + 1, X, none⟩ (.int .i64 (dy + m))).cell? ⟨w.heap.size, 1, none⟩ = some (.slice (some ⟨b, o, none⟩) bs.length c) := by rw [cell_far hne]; exact q1
                  have hr3 := hrow2.set X (dy + m)
                  have hr4 := hbrow2.far (b := w.heap.size + 1 + 1) (i := X) (Ne.symm hne2) (.int .i64 (dy + m))
                  exact ⟨k + 1, by omega, by go_num, Lib.hid ⟨c0, c1, (bel_set hbel2 (by omega) _).drew, by rw [HS.out, HY.out]; exact hr4, by rw [HS.out, HY.out]; exact hr3⟩⟩
                case measure => simp [intOf]; omega
              · have HN := Lib.hid (HNO.out (.inr ⟨rfl, hc⟩))
                have hcd : decide (dy + m < dx) = false := by simpa using hc
                refine wp_region_F (fun W => W.cell? ⟨wr.heap.size, 0, none⟩ = some (.int .i64 (X : Int)) ∧ W.cell? ⟨wr.heap.size, 1, none⟩ = some (.int .i64 (Y : Int)) ∧ W.cell? ⟨wr.heap.size, 2, none⟩ = some (.int .i64 m) ∧ W.cell? ⟨w.heap.size + 1, Y, none⟩ = some (.bool true) ∧ W.cell? ⟨w.heap.size + 1, X, none⟩ = some (.bool true) ∧ W.cell? ⟨w.heap.size + 1 + 1, Y, none⟩ = some (.int .i64 dy) ∧ W.cell? ⟨w.heap.size + 1 + 1, X, none⟩ = some (.int .i64 dx)) (by repeat (first | exact grows_cell _ _ _ | exact grows_true | refine grows_and ?_ ?_)) (by kernel_rfl) (by kernel_rfl) ?hF ?_; (case hF => (first | exact ⟨‹_›, ‹_›⟩ | (go_simp; done) | (simp [*]; done))); intro hne hxx; have hG : Hid (Grows (fun W => W.cell? ⟨wr.heap.size, 0, none⟩ = some (.int .i64 (X : Int)) ∧ W.cell? ⟨wr.heap.size, 1, none⟩ = some (.int .i64 (Y : Int)) ∧ W.cell? ⟨wr.heap.size, 2, none⟩ = some (.int .i64 m) ∧ W.cell? ⟨w.heap.size + 1, Y, none⟩ = some (.bool true) ∧ W.cell? ⟨w.heap.size + 1, X, none⟩ = some (.bool true) ∧ W.cell? ⟨w.heap.size + 1 + 1, Y, none⟩ = some (.int .i64 dy) ∧ W.cell? ⟨w.heap.size + 1 + 1, X, none⟩ = some (.int .i64 dx))) := (by repeat (first | exact grows_cell _ _ _ | exact grows_true | refine grows_and ?_ ?_)); (repeat (go_big_quiet_step (fail))); clear hG hxx hne; refine wpQuiet_nil ?_; rintro _ ⟨⟨w', hb', hF'⟩, rfl⟩
                clear hF'
                go_wp2_with fail
                go_roundw
                case rel => exact ⟨k + 1, by omega, by go_num, Lib.hid ⟨cell_stays hb' q0, cell_stays hb' q1, bel_tr hbel1 hb', by rw [HS.out, HN.out]; exact hbrow1.stays hb', by rw [HS.out, HN.out]; exact hrow1.stays hb'⟩⟩
                case measure => simp [intOf]; omega
        · obtain rfl : k = bs.length := by omega
          rw [← HNX.out] at HJ
          go_wp2_with fail
          go_roundw
          case rel => exact ⟨r + 1, by omega, by go_num, HJ⟩
          case measure => simp [intOf]; omega
    · obtain rfl : r = n := by omega
      obtain ⟨S, hS⟩ : ∃ S, S = truns r (bs.map ed) y r := ⟨_, rfl⟩
      have hsh : S.h.length = r := by rw [hS]; exact (truns_len _ _ _ r).1
      have hsd : S.d.length = r := by rw [hS]; exact (truns_len _ _ _ r).2
      rw [← hS] at HI
      have HSS := Lib.hid hS
      clear hS
      have rx := HI.out.2.2.2.2.cell (i := x) (by omega)
      have bx := HI.out.2.2.2.1.cell (i := x) (by omega)
      obtain ⟨dx, hdx⟩ : ∃ a, a = gd S.d x := ⟨_, rfl⟩
      obtain ⟨tx, htx⟩ : ∃ a, a = gb S.h x := ⟨_, rfl⟩
      rw [← hdx] at rx
      rw [← htx] at bx
      have HDX := Lib.hid hdx
      have HTX := Lib.hid htx
      clear hdx htx
      go_wp2_with fail
      refine wp_region_F (fun W => W.cell? ⟨w.heap.size + 1 + 1, x, none⟩ = some (.int .i64 dx) ∧ W.cell? ⟨w.heap.size + 1, x, none⟩ = some (.bool tx)) (by repeat (first | exact grows_cell _ _ _ | exact grows_true | refine grows_and ?_ ?_)) (by kernel_rfl) (by kernel_rfl) ?hF ?_; (case hF => (first | exact ⟨‹_›, ‹_›⟩ | (go_simp; done) | (simp [*]; done))); intro hne hxx; have hG : Hid (Grows (fun W => W.cell? ⟨w.heap.size + 1 + 1, x, none⟩ = some (.int .i64 dx) ∧ W.cell? ⟨w.heap.size + 1, x, none⟩ = some (.bool tx))) := (by repeat (first | exact grows_cell _ _ _ | exact grows_true | refine grows_and ?_ ?_)); (repeat (go_big_quiet_step (fail))); clear hG hxx hne; refine wpQuiet_nil ?_; rintro _ ⟨⟨w', hb', hF'⟩, rfl⟩
      clear hF'
      go_wp2_with fail
      go_ret2
      rw [← HSS.out, ← HDX.out, ← HTX.out]
      exact ⟨rfl, bel_tr HI.out.2.2.1 hb'⟩
end Go.Proofs.Ytgecbjjcjemcgaa
