/- The tightest bounds, as the program finds them. -/
import Derived.Test.YtgecbjjcjemcgaaDtab
namespace Go.Proofs.Ytgecbjjcjemcgaa
open Go.RowKit

theorem cell_ne {W : World} {b i j : Nat} {v : Value} (h : i ≠ j) : (W.setCell ⟨b, i, none⟩ v).cell? ⟨b, j, none⟩ = W.cell? ⟨b, j, none⟩ := by
  simp [World.cell?, World.setCell, Array.getElem?_modify]
  cases hh : W.heap[b]? with
  | none => simp
  | some o =>
    cases o <;> simp
    rw [Array.getElem?_setIfInBounds_ne h]
theorem cell_same {W : World} {b i : Nat} {u v : Value} (h : W.cell? ⟨b, i, none⟩ = some u) : (W.setCell ⟨b, i, none⟩ v).cell? ⟨b, i, none⟩ = some v := World.cell?_setCell_same' _ _ _ (by rw [h]; rfl)

/-- the world with one row more, an integer 0 at the diagonal -/
def rowAdded (W : World) (n gt k : Nat) : World :=
  ((((W.alloc (.cells (List.replicate n (Value.pointer none)).toArray 86)).setCell ⟨gt, k, none⟩ (.slice (some ⟨W.heap.size, 0, none⟩) n n)).alloc (.cells #[.int .i64 0] 3)).setCell ⟨W.heap.size, k, none⟩ (.pointer (some ⟨W.heap.size + 1, 0, none⟩)))

structure Room (W : World) (k n gt : Nat) : Prop where
  un : ∀ x, k ≤ x → x < n → W.cell? ⟨gt, x, none⟩ = some (.slice none 0 0)
  fz : ∀ x, W.frozen? ⟨gt, x, none⟩ = false
  lt : gt < W.heap.size

theorem added {w0 W : World} {k n gt : Nat} {rows : Nat → Nat} {p : Nat → Nat → Option Nat} (hk : k < n) (h : TabAt w0 W k n gt rows p fw0) (hr : Room W k n gt) (hog : w0.heap.size ≤ gt) :
    (∃ rows' p', TabAt w0 (rowAdded W n gt k) (k + 1) n gt rows' p' fw0) ∧ Room (rowAdded W n gt k) (k + 1) n gt ∧ (∀ b, b < W.heap.size → b ≠ gt → (rowAdded W n gt k).heap[b]? = W.heap[b]?) := by
  have hgl := hr.lt
  have hrl : ∀ x, x < k → rows x < W.heap.size := fun x hx => by have := World.block_lt_of_cell? W _ (h.row x 0 hx (by omega)); simpa using this
  -- the four steps
  have a1 : ∀ b, b < W.heap.size → (W.alloc (.cells (List.replicate n (Value.pointer none)).toArray 86)).heap[b]? = W.heap[b]? := fun b hb => Below.heap_alloc W _ b hb
  have s1 : (W.alloc (.cells (List.replicate n (Value.pointer none)).toArray 86)).heap.size = W.heap.size + 1 := by simp
  have e1 : (W.alloc (.cells (List.replicate n (Value.pointer none)).toArray 86)).heap[W.heap.size]? = some (.cells (List.replicate n (Value.pointer none)).toArray 86 (0, 0)) := heap_alloc_new W _
  generalize hW1 : W.alloc (.cells (List.replicate n (Value.pointer none)).toArray 86) = W1 at a1 s1 e1
  have hgs1 : W1.cell? ⟨gt, k, none⟩ = some (.slice none 0 0) := (World.cell?_of_block (a1 gt hgl)).trans (hr.un k (Nat.le_refl _) hk)
  have a2 : ∀ b, b ≠ gt → (W1.setCell ⟨gt, k, none⟩ (.slice (some ⟨W.heap.size, 0, none⟩) n n)).heap[b]? = W1.heap[b]? := fun b hb => Below.heap_setCell W1 ⟨gt, k, none⟩ _ b hb
  have s2 : (W1.setCell ⟨gt, k, none⟩ (.slice (some ⟨W.heap.size, 0, none⟩) n n)).heap.size = W.heap.size + 1 := by rw [World.size_setCell]; exact s1
  have g2 : (W1.setCell ⟨gt, k, none⟩ (.slice (some ⟨W.heap.size, 0, none⟩) n n)).cell? ⟨gt, k, none⟩ = some (.slice (some ⟨W.heap.size, 0, none⟩) n n) := cell_same hgs1
  have g3 : ∀ x, x ≠ k → (W1.setCell ⟨gt, k, none⟩ (.slice (some ⟨W.heap.size, 0, none⟩) n n)).cell? ⟨gt, x, none⟩ = W.cell? ⟨gt, x, none⟩ := fun x hx => (cell_ne (Ne.symm hx)).trans (World.cell?_of_block (a1 gt hgl))
  have g4 : ∀ x, (W1.setCell ⟨gt, k, none⟩ (.slice (some ⟨W.heap.size, 0, none⟩) n n)).frozen? ⟨gt, x, none⟩ = false := fun x => by rw [World.frozen?_setCell, World.frozen?_of_block (a := ⟨gt, x, none⟩) (a1 gt hgl)]; exact hr.fz x
  generalize hW2 : W1.setCell ⟨gt, k, none⟩ (.slice (some ⟨W.heap.size, 0, none⟩) n n) = W2 at a2 s2 g2 g3 g4
  have a3 : ∀ b, b < W.heap.size + 1 → (W2.alloc (.cells #[.int .i64 0] 3)).heap[b]? = W2.heap[b]? := fun b hb => Below.heap_alloc W2 _ b (by omega)
  have e3 : (W2.alloc (.cells #[.int .i64 0] 3)).heap[W.heap.size + 1]? = some (.cells #[.int .i64 0] 3 (0, 0)) := by rw [← s2]; exact heap_alloc_new W2 _
  generalize hW3 : W2.alloc (.cells #[.int .i64 0] 3) = W3 at a3 e3
  have e3r : W3.heap[W.heap.size]? = some (.cells (List.replicate n (Value.pointer none)).toArray 86 (0, 0)) := by rw [a3 _ (by omega), a2 _ (by omega)]; exact e1
  have a4 : ∀ b, b ≠ W.heap.size → (W3.setCell ⟨W.heap.size, k, none⟩ (.pointer (some ⟨W.heap.size + 1, 0, none⟩))).heap[b]? = W3.heap[b]? := fun b hb => Below.heap_setCell W3 ⟨W.heap.size, k, none⟩ _ b hb
  have hW4 : rowAdded W n gt k = W3.setCell ⟨W.heap.size, k, none⟩ (.pointer (some ⟨W.heap.size + 1, 0, none⟩)) := by unfold rowAdded; rw [hW1, hW2, hW3]
  rw [hW4]
  have hold : ∀ b, b < W.heap.size → b ≠ gt → (W3.setCell ⟨W.heap.size, k, none⟩ (.pointer (some ⟨W.heap.size + 1, 0, none⟩))).heap[b]? = W.heap[b]? := fun b hb hn => by
    rw [a4 b (by omega), a3 b (by omega), a2 b hn, a1 b hb]
  have hgt : (W3.setCell ⟨W.heap.size, k, none⟩ (.pointer (some ⟨W.heap.size + 1, 0, none⟩))).heap[gt]? = W2.heap[gt]? := by rw [a4 gt (by omega), a3 gt (by omega)]
  have hnil : ∀ y, y < n → W3.cell? ⟨W.heap.size, y, none⟩ = some (.pointer none) := fun y hy => by
    simp [World.cell?, e3r, hy]
  have hbel : Below w0.heap.size w0 (W3.setCell ⟨W.heap.size, k, none⟩ (.pointer (some ⟨W.heap.size + 1, 0, none⟩))) := by
    rw [← hW3, ← hW2, ← hW1]
    exact bel_set (bel_al (bel_set (bel_al h.bel _) hog _) _) (h.bel.size) _
  have hw0 := h.bel.size
  refine ⟨⟨fun x => if x = k then W.heap.size else rows x, fun x y => if x = k then (if y = k then some (W.heap.size + 1) else none) else p x y, ?_⟩, ?_, hold⟩
  · refine ⟨fun x hx => ?_, fun x y hx hy => ?_, fun x y hx => ?_, fun x y hx hy => ?_, fun x y q hx hy => ?_, fun x z hx hz => ?_, fun x hx => ?_, fun x hx => ?_, hbel⟩
    · by_cases hxk : x = k
      · subst hxk
        simp only [if_true]
        rw [World.cell?_of_block (a := ⟨gt, x, none⟩) hgt]
        exact g2
      · simp only [if_neg hxk]
        rw [World.cell?_of_block (a := ⟨gt, x, none⟩) hgt, g3 x hxk]
        exact h.outer x (by omega)
    · by_cases hxk : x = k
      · subst hxk
        simp only [if_true]
        by_cases hyk : y = x
        · subst hyk
          simp only [if_true]
          exact cell_same (hnil y hy)
        · simp only [if_neg hyk]
          rw [cell_ne (Ne.symm hyk)]
          exact hnil y hy
      · simp only [if_neg hxk]
        rw [World.cell?_of_block (a := ⟨rows x, y, none⟩) (hold (rows x) (hrl x (by omega)) (h.og x (by omega)))]
        exact h.row x y (by omega) hy
    · by_cases hxk : x = k
      · simp only [if_pos hxk]
        rw [World.frozen?_setCell]
        simp [World.frozen?, e3r]
      · simp only [if_neg hxk]
        rw [World.frozen?_of_block (a := ⟨rows x, y, none⟩) (hold (rows x) (hrl x (by omega)) (h.og x (by omega)))]
        exact h.fz x y (by omega)
    · by_cases hxk : x = k
      · subst hxk
        simp only [if_true]
        by_cases hyk : y = x
        · simp only [if_pos hyk]; intro h5; cases h5
        · intro _; unfold fw0; rw [if_neg (Ne.symm hyk)]
      · simp only [if_neg hxk]; exact h.no x y (by omega) hy
    · by_cases hxk : x = k
      · subst hxk
        simp only [if_true]
        by_cases hyk : y = x
        · subst hyk
          simp only [if_true]
          intro h5
          injection h5 with h5
          subst h5
          refine ⟨0, by unfold fw0; rw [if_pos rfl], ?_, fun z hz => ?_, by omega⟩
          · rw [World.cell?_of_block (a := ⟨W.heap.size + 1, 0, none⟩) (a4 _ (by simp only; omega))]
            simp [World.cell?, e3]
          · by_cases hzk : z = y
            · simp only [if_pos hzk]; omega
            · simp only [if_neg hzk]; have := hrl z (by omega); omega
        · simp only [if_neg hyk]; intro h5; cases h5
      · simp only [if_neg hxk]
        intro h5
        obtain ⟨c, c1, c2, c3, c4⟩ := h.yes x y q (by omega) hy h5
        have hql := World.block_lt_of_cell? W _ c2
        simp only at hql
        refine ⟨c, c1, ?_, fun z hz => ?_, c4⟩
        · rw [World.cell?_of_block (a := ⟨q, 0, none⟩) (hold q hql c4)]; exact c2
        · by_cases hzk : z = k
          · simp only [if_pos hzk]; omega
          · simp only [if_neg hzk]; exact c3 z (by omega)
    · by_cases hxk : x = k
      · by_cases hzk : z = k
        · intro _; omega
        · simp only [if_pos hxk, if_neg hzk]; have := hrl z (by omega); intro h5; omega
      · by_cases hzk : z = k
        · simp only [if_neg hxk, if_pos hzk]; have := hrl x (by omega); intro h5; omega
        · simp only [if_neg hxk, if_neg hzk]; exact h.inj x z (by omega) (by omega)
    · by_cases hxk : x = k
      · simp only [if_pos hxk]; omega
      · simp only [if_neg hxk]; exact h.og x (by omega)
    · by_cases hxk : x = k
      · simp only [if_pos hxk]; exact hw0
      · simp only [if_neg hxk]; exact h.own x (by omega)
  · refine ⟨fun x h1 h2 => ?_, fun x => ?_, ?_⟩
    · rw [World.cell?_of_block (a := ⟨gt, x, none⟩) hgt, g3 x (by omega)]; exact hr.un x (by omega) h2
    · rw [World.frozen?_of_block (a := ⟨gt, x, none⟩) hgt]; exact g4 x
    · have : W2.heap.size ≤ W3.heap.size := by rw [← hW3]; simp
      rw [World.size_setCell]; omega

theorem upTo_le (a : Nat) (h : a ≤ 5) : upTo 1125899906842624 a ≤ 36028797018963968 := by
  have : a = 0 ∨ a = 1 ∨ a = 2 ∨ a = 3 ∨ a = 4 ∨ a = 5 := by omega
  rcases this with rfl | rfl | rfl | rfl | rfl | rfl <;> decide
theorem tab_bounds {n : Nat} {bs : List Bd} (hg : good n bs) (hn6 : n ≤ 6) (hlen : bs.length ≤ 256) (hf : feas n (bs.map ed) = true) {a x y : Nat} (ha : a < n) {u v : Nat} {c : Int}
    (h : relY (relX n (relK n (impK (bs.map ed) (bs.map ed).length) a) a x) a x y u v = some c) : -2017612633061982208 ≤ c ∧ c ≤ 72057594037927936 := by
  have h1 := (up_at (n := n) (bs := bs.map ed) (U := 1125899906842624) (by decide) (fun b hb => by obtain ⟨d, hd, rfl⟩ := List.mem_map.1 hb; exact (hg d hd).2.2.2.2.2) a x y).1 u v c h
  have h2 := upTo_le a (by omega)
  obtain ⟨es, e1, e2⟩ := ways_at (n := n) (bs := bs.map ed) a x y u v c h
  have h3 := way_sat (feas_sat hf) e1
  have h4 := sums_low hg u
  have h5 := sums_low hg v
  have h6 : (n + 1) * bs.length ≤ 7 * 256 := Nat.mul_le_mul (by omega) hlen
  omega

/-- the table is handed back -/
def TightRet (w : World) (n : Nat) (bs : List Ed) (e : Ending) (W : World) : Prop := ∃ gt rows p, e = .returned (.slice (some ⟨gt, 0, none⟩) n n) ∧ TabAt w W n n gt rows p (fw n bs)

set_option maxRecDepth 100000 in
set_option maxHeartbeats 4000000 in
theorem tightest_any (n : Nat) (h16 : 1 ≤ n ∧ n ≤ 6) (bs : List Bd) (v : Value) (w : World) (hl : IsBds w v bs) (hg : good n bs) (hlen : bs.length ≤ 256) (hfe : feas n (bs.map ed) = true) :
    Calls Try.prog 48 #[zoneV n v] w (TightRet w n (bs.map ed)) := by
  unfold zoneV
  have HL := Lib.hid hl
  have HG := Lib.hid hg
  have HFE := Lib.hid hfe
  obtain ⟨A, c, rfl, h1, h2, hat⟩ := hl
  have hn := len_i64 h1 h2
  have HA := Lib.hid hat
  clear hat h1 h2 hfe
  obtain ⟨hn1, hn6⟩ := h16
  have hmr := fun W => make_rows n (by omega) W
  have hmp := fun W => make_ptrs n (by omega) W
  clear hg
  go_enter Try.func48, Try.ntmps48
  go_wp2_with fail
  refine wp_gen ?_
  intro W0 hW0
  obtain ⟨w1, hw1⟩ : ∃ w1, w1 = w.alloc (.cells #[.int .i64 (n : Int), .slice A bs.length c] 24) := ⟨_, rfl⟩
  rw [← hw1] at hW0
  have z0 : w1.cell? ⟨w.heap.size, 0, none⟩ = some (.int .i64 (n : Int)) := by rw [hw1]; exact (new_cells (Below.refl _ _)).1 0
  have z1 : w1.cell? ⟨w.heap.size, 1, none⟩ = some (.slice A bs.length c) := by rw [hw1]; exact (new_cells (Below.refl _ _)).1 1
  have hbw : Below w.heap.size w w1 := by rw [hw1]; exact bel_one _ _
  have hs1 : w1.heap.size = w.heap.size + 1 := by rw [hw1]; simp
  have hb0 : Below w1.heap.size w1 W0 := by rw [hW0]; exact bel_one _ _
  have hgt0 : W0.heap[w.heap.size + 1]? = some (.cells (List.replicate n (Value.slice none 0 0)).toArray 87 (0, 0)) := by rw [hW0]; exact heap_new' _ _ _ (by rw [hs1])
  have hroom : Room W0 0 n (w.heap.size + 1) := ⟨fun x _ hx => by simp [World.cell?, hgt0, hx], fun x => by simp [World.frozen?, hgt0], blk_lt hgt0⟩
  have htab : TabAt w1 W0 0 n (w.heap.size + 1) (fun _ => 0) (fun _ _ => none) fw0 := ⟨fun x hx => by omega, fun x y hx => by omega, fun x y hx => by omega, fun x y hx => by omega, fun x y q hx => by omega, fun x z hx => by omega, fun x hx => by omega, fun x hx => by omega, hb0⟩
  have HZ := Lib.hid (And.intro hroom htab)
  have HW := Lib.hid (And.intro z0 (And.intro z1 hbw))
  clear hW0 hb0 hgt0 hroom htab hw1 z0 z1 hbw
  go_loopw [18] (fun i wr => ∃ (k : Nat) (rows : Nat → Nat) (p : Nat → Nat → Option Nat), k ≤ n ∧ i = .int .i64 k ∧ Hid (Room wr k n (w.heap.size + 1) ∧ TabAt w1 wr k n (w.heap.size + 1) rows p fw0)) (fun i _ => n - (intOf i).toNat)
  case atStart => exact ⟨0, _, _, Nat.zero_le _, rfl, HZ.out.1, HZ.out.2⟩
  case round =>
    obtain ⟨k, rows, p, hk, rfl, HI⟩ := hrel
    have z0 := cell_stays HI.out.2.bel HW.out.1
    have z1 := cell_stays HI.out.2.bel HW.out.2.1
    have hzl := World.block_lt_of_cell? wr _ z0
    simp only at hzl
    by_cases hlt : k < n
    · have hlt' : (k : Int) < (n : Int) := by omega
      have q0 := HI.out.1.un k (Nat.le_refl _) hlt
      have q1 := HI.out.1.fz k
      have q2 := HI.out.1.lt
      obtain ⟨⟨rows', p', ht'⟩, hr', -⟩ := added hlt HI.out.2 HI.out.1 (by omega)
      have HT' := Lib.hid ht'
      have HR' := Lib.hid hr'
      clear ht' hr'
      have e : rowAdded wr n (w.heap.size + 1) k = (((wr.setCell ⟨w.heap.size + 1, k, none⟩ (.slice (some ⟨wr.heap.size, 0, none⟩) n n)).alloc (.cells ((Array.replicate n (Value.pointer none)).setIfInBounds k (.pointer (some ⟨wr.heap.size + 1, 0, none⟩))) 86)).alloc (.cells #[.int .i64 0] 3)) := by
        unfold rowAdded
        go_simp
      go_wp2_with fail
      go_roundw
      case rel =>
        refine ⟨k + 1, rows', p', by omega, by go_num, ?_⟩
        rw [← e]
        exact Lib.hid ⟨HR'.out, HT'.out⟩
      case measure => simp [intOf]; omega
    · obtain rfl : k = n := by omega
      have HT0 := Lib.hid HI.out.2
      clear HI
      go_wp2_with fail
      go_loopw [40] (fun i wr => ∃ (j : Nat) (p : Nat → Nat → Option Nat), j ≤ bs.length ∧ i = .int .i64 j ∧ Hid (TabAt w1 wr k k (w.heap.size + 1) rows p (impK (bs.map ed) j))) (fun i _ => bs.length - (intOf i).toNat)
      case atStart => exact ⟨0, p, Nat.zero_le _, rfl, HT0.out⟩
      case round =>
        obtain ⟨j, p, hj, rfl, HI⟩ := hrel
        replace z0 := cell_stays HI.out.bel HW.out.1
        replace z1 := cell_stays HI.out.bel HW.out.2.1
        by_cases hlt : j < bs.length
        · have hlt' : (j : Int) < (bs.length : Int) := by omega
          have hget := List.getElem?_eq_getElem hlt
          obtain ⟨bk, hbk⟩ : ∃ b, b = bs[j] := ⟨_, rfl⟩
          rw [← hbk] at hget
          have HE : Hid ((bs.map ed)[j]? = some (ed bk)) := Lib.hid (by rw [List.getElem?_map, hget]; rfl)
          obtain ⟨gx0, gx1, gy0, gy1, gm0, gm1⟩ := HG.out bk (by rw [hbk]; exact List.getElem_mem hlt)
          obtain ⟨b, o, rfl, p0, p1, p2⟩ := HA.out j bk hget
          clear hget hbk
          replace p0 := cell_stays (bel_tr HW.out.2.2 HI.out.bel) p0
          replace p1 := cell_stays (bel_tr HW.out.2.2 HI.out.bel) p1
          replace p2 := cell_stays (bel_tr HW.out.2.2 HI.out.bel) p2
          obtain ⟨x, y, m⟩ := bk
          simp only [ed] at HE
          simp only at gx0 gx1 gy0 gy1 gm0 gm1 p0 p1 p2
          obtain ⟨X, rfl⟩ := Int.eq_ofNat_of_zero_le gx0
          obtain ⟨Y, rfl⟩ := Int.eq_ofNat_of_zero_le gy0
          simp only [Int.toNat_natCast] at HE
          have HNX : Hid (impK (bs.map ed) (j + 1) = imp (impK (bs.map ed) j) X Y m) := Lib.hid (by simp only [impK, HE.out])
          have hbl := World.block_lt_of_cell? wr _ p0
          simp only at hbl
          go_wp2_with (go_at_call 74; refine (improve_any w1 _ k (w.heap.size + 1) rows p (impK (bs.map ed) j) (HI.out.grow (by omega) (bel_one _ _)) X Y m (by omega) (by omega)).mono ?_; rintro e w5 ⟨rfl, ⟨p5, ht5⟩, -, -⟩)
          go_roundw
          case rel => exact ⟨j + 1, p5, by omega, by go_num, by rw [HNX.out]; exact Lib.hid ht5⟩
          case measure => simp [intOf]; omega
        · obtain rfl : j = bs.length := by omega
          have HTB : Hid (TabAt w1 wr k k (w.heap.size + 1) rows p (relK k (impK (bs.map ed) (bs.map ed).length) 0)) := Lib.hid (by rw [List.length_map]; exact HI.out)
          clear HI
          obtain ⟨I0, hI0⟩ : ∃ I0, I0 = impK (bs.map ed) (bs.map ed).length := ⟨_, rfl⟩
          have HBD : Hid (∀ a x y u v c, a < k → relY (relX k (relK k I0 a) a x) a x y u v = some c → -2017612633061982208 ≤ c ∧ c ≤ 72057594037927936) := Lib.hid (by
            intro a x y u v c ha h
            rw [hI0] at h
            exact tab_bounds HG.out hn6 hlen HFE.out ha h)
          have HFW : Hid (fw k (bs.map ed) = relK k I0 k) := Lib.hid (by rw [hI0]; rfl)
          rw [← hI0] at HTB
          clear hI0 z0 z1 HL HA
          go_wp2_with fail
          go_loopw [55] (fun i wr => ∃ (a : Nat) (p : Nat → Nat → Option Nat), a ≤ k ∧ i = .int .i64 a ∧ Hid (TabAt w1 wr k k (w.heap.size + 1) rows p (relK k I0 a))) (fun i _ => k - (intOf i).toNat)
          case atStart => exact ⟨0, p, Nat.zero_le _, rfl, HTB.out⟩
          case round =>
            obtain ⟨a, p, ha, rfl, HI⟩ := hrel
            by_cases hla : a < k
            · have hla' : (a : Int) < (k : Int) := by omega
              go_wp2_with fail
              go_loopw [60] (fun i wr => ∃ (x : Nat) (p : Nat → Nat → Option Nat), x ≤ k ∧ i = .int .i64 x ∧ Hid (TabAt w1 wr k k (w.heap.size + 1) rows p (relX k (relK k I0 a) a x))) (fun i _ => k - (intOf i).toNat)
              case atStart => exact ⟨0, p, Nat.zero_le _, rfl, HI.out⟩
              case round =>
                obtain ⟨x, p, hx, rfl, HI⟩ := hrel
                by_cases hlx : x < k
                · have hlx' : (x : Int) < (k : Int) := by omega
                  go_wp2_with fail
                  go_loopw [65] (fun i wr => ∃ (y : Nat) (p : Nat → Nat → Option Nat), y ≤ k ∧ i = .int .i64 y ∧ Hid (TabAt w1 wr k k (w.heap.size + 1) rows p (relY (relX k (relK k I0 a) a x) a x y))) (fun i _ => k - (intOf i).toNat)
                  case atStart => exact ⟨0, p, Nat.zero_le _, rfl, HI.out⟩
                  case round =>
                    obtain ⟨y, p, hy, rfl, HI⟩ := hrel
                    by_cases hly : y < k
                    · have hly' : (y : Int) < (k : Int) := by omega
                      have hbd := fun u v c => HBD.out a x y u v c hla
                      obtain ⟨T, hT⟩ : ∃ T, T = relY (relX k (relK k I0 a) a x) a x y := ⟨_, rfl⟩
                      have HNX : Hid (relY (relX k (relK k I0 a) a x) a x (y + 1) = stepT T a x y) := Lib.hid (by rw [hT]; rfl)
                      rw [← hT] at HI hbd
                      clear hT
                      have q0 := HI.out.outer x hlx
                      have q1 := HI.out.row x a hlx hla
                      have q2 := HI.out.outer a hla
                      have q3 := HI.out.row a y hla hly
                      have HBB := Lib.hid hbd
                      clear hbd
                      obtain ⟨pa, hpa⟩ : ∃ o, o = p x a := ⟨_, rfl⟩
                      obtain ⟨pb, hpb⟩ : ∃ o, o = p a y := ⟨_, rfl⟩
                      have HPA := Lib.hid hpa
                      have HPB := Lib.hid hpb
                      rw [← hpa] at q1
                      rw [← hpb] at q3
                      clear hpa hpb
                      cases pa with
                      | none =>
                        have HST := Lib.hid (stepT_none1 (y := y) (HI.out.no x a hlx hla HPA.out.symm))
                        simp only [ptr, Option.map_none] at q1
                        go_wp2_with fail
                        go_region_held3 (fun W => W.cell? ⟨w.heap.size + 1, x, none⟩ = some (.slice (some ⟨rows x, 0, none⟩) k k) ∧ W.cell? ⟨rows x, a, none⟩ = some (.pointer none) ∧ W.cell? ⟨w.heap.size + 1, a, none⟩ = some (.slice (some ⟨rows a, 0, none⟩) k k) ∧ W.cell? ⟨rows a, y, none⟩ = some (ptr pb)) (exact ⟨q0, q1, q2, q3⟩) (fail)
                        go_wp2_with fail
                        go_roundw
                        case rel => exact ⟨y + 1, p, by omega, by go_num, by rw [HNX.out, HST.out]; exact Lib.hid (HI.out.grow (by omega) (Below.refl _ _).drew)⟩
                        case measure => simp [intOf]; omega
                      | some qa =>
                        obtain ⟨ca, ta, ka, na, -⟩ := HI.out.yes x a qa hlx hla HPA.out.symm
                        have HNA := Lib.hid na
                        clear na
                        have hca := HBB.out x a ca ta
                        simp only [ptr, Option.map_some] at q1
                        cases pb with
                        | none =>
                          have HST := Lib.hid (stepT_none2 (x := x) (HI.out.no a y hla hly HPB.out.symm))
                          simp only [ptr, Option.map_none] at q3
                          clear ta ka hca
                          go_wp2_with fail
                          go_region_held3 (fun W => W.cell? ⟨w.heap.size + 1, x, none⟩ = some (.slice (some ⟨rows x, 0, none⟩) k k) ∧ W.cell? ⟨rows x, a, none⟩ = some (.pointer (some ⟨qa, 0, none⟩)) ∧ W.cell? ⟨w.heap.size + 1, a, none⟩ = some (.slice (some ⟨rows a, 0, none⟩) k k) ∧ W.cell? ⟨rows a, y, none⟩ = some (.pointer none)) (exact ⟨q0, q1, q2, q3⟩) (fail)
                          go_wp2_with fail
                          go_roundw
                          case rel => exact ⟨y + 1, p, by omega, by go_num, by rw [HNX.out, HST.out]; exact Lib.hid (HI.out.grow (by omega) (Below.refl _ _).drew)⟩
                          case measure => simp [intOf]; omega
                        | some qb =>
                          obtain ⟨cb, tb, kb, nb, -⟩ := HI.out.yes a y qb hla hly HPB.out.symm
                          have HNB := Lib.hid nb
                          clear nb
                          have hcb := HBB.out a y cb tb
                          simp only [ptr, Option.map_some] at q3
                          have HST := Lib.hid (stepT_some ta tb)
                          have hw : IntKind.i64.wrap (ca + cb) = ca + cb := IntWalk.i64_in _ (by omega)
                          clear ta tb
                          go_wp2_with fail
                          go_region_held3 (fun W => W.cell? ⟨w.heap.size + 1, x, none⟩ = some (.slice (some ⟨rows x, 0, none⟩) k k) ∧ W.cell? ⟨rows x, a, none⟩ = some (.pointer (some ⟨qa, 0, none⟩)) ∧ W.cell? ⟨w.heap.size + 1, a, none⟩ = some (.slice (some ⟨rows a, 0, none⟩) k k) ∧ W.cell? ⟨rows a, y, none⟩ = some (.pointer (some ⟨qb, 0, none⟩))) (exact ⟨q0, q1, q2, q3⟩) (fail)
                          go_wp2_with fail
                          refine wp_gen ?_
                          intro W6 hW6
                          have ka6 : W6.cell? ⟨qa, 0, none⟩ = some (.int .i64 ca) := by rw [hW6]; exact ka
                          have kb6 : W6.cell? ⟨qb, 0, none⟩ = some (.int .i64 cb) := by rw [hW6]; exact kb
                          have HT6 : Hid (TabAt w1 W6 k k (w.heap.size + 1) rows p T) := Lib.hid (by rw [hW6]; exact HI.out.grow (by omega) (Below.refl _ _).drew)
                          clear hW6 ka kb q0 q1 q2 q3
                          go_region_held3 (fun W => W.cell? ⟨qa, 0, none⟩ = some (.int .i64 ca) ∧ W.cell? ⟨qb, 0, none⟩ = some (.int .i64 cb)) (first
                            | exact ⟨ka6, kb6⟩
                            | exact ⟨ka7, kb7⟩) (first
                            | (go_at_call 74; refine (improve_any w1 _ k (w.heap.size + 1) rows p T (HT6.out.grow (by omega) (Below.refl _ _).drew) x y (ca + cb) hlx hly).mono ?_; rintro e w7 ⟨rfl, ⟨p7, ht7⟩, hs7, hk7⟩; have hla6 := World.block_lt_of_cell? W6 _ ka6; have hlb6 := World.block_lt_of_cell? W6 _ kb6; have ka7 : w7.cell? ⟨qa, 0, none⟩ = some (.int .i64 ca) := (World.cell?_of_block (a := ⟨qa, 0, none⟩) (hk7 qa hla6 HNA.out)).trans ka6; have kb7 : w7.cell? ⟨qb, 0, none⟩ = some (.int .i64 cb) := (World.cell?_of_block (a := ⟨qb, 0, none⟩) (hk7 qb hlb6 HNB.out)).trans kb6; have HT7 := Lib.hid ht7; clear ht7 hk7))
                          go_wp2_with fail
                          go_roundw
                          case rel => exact ⟨y + 1, p7, by omega, by go_num, by rw [HNX.out, HST.out]; exact HT7⟩
                          case measure => simp [intOf]; omega
                    · obtain rfl : y = k := by omega
                      go_wp2_with fail
                      go_roundw
                      case rel => exact ⟨x + 1, p, by omega, by go_num, HI⟩
                      case measure => simp [intOf]; omega
                · obtain rfl : x = k := by omega
                  go_wp2_with fail
                  go_roundw
                  case rel => exact ⟨a + 1, p, by omega, by go_num, HI⟩
                  case measure => simp [intOf]; omega
            · obtain rfl : a = k := by omega
              go_wp2_with fail
              go_ret
              refine ⟨_, rows, p, rfl, ?_⟩
              rw [HFW.out]
              have h := HI.out
              exact ⟨h.outer, h.row, h.fz, h.no, h.yes, h.inj, h.og, fun x hx => by have := h.own x hx; omega, bel_tr HW.out.2.2 h.bel⟩
end Go.Proofs.Ytgecbjjcjemcgaa
