/- The bounds on the other unknowns, as the program finds them. -/
import Derived.Test.YtgecbjjcjemcgaaDrange
import Derived.StillTailTactics
namespace Go.Proofs.Ytgecbjjcjemcgaa
open Go.RowKit

def renum (u x : Int) : Int := if u < x then x - 1 else x
def offU (u : Int) (b : Bd) : Bool := b.x != u && b.y != u
def reBd (u : Int) (b : Bd) : Bd := ⟨renum u b.x, renum u b.y, b.most⟩
def projL (u : Int) (l : List Bd) : List Bd := (l.filter (offU u)).map (reBd u)
theorem projL_yes {u : Int} {l : List Bd} {k : Nat} {b : Bd} (h : l[k]? = some b) (h1 : offU u b = true) : projL u (l.take (k + 1)) = projL u (l.take k) ++ [reBd u b] := by
  rw [take_snoc' h]; simp [projL, List.filter_append, h1]
theorem projL_no {u : Int} {l : List Bd} {k : Nat} {b : Bd} (h : l[k]? = some b) (h1 : offU u b = false) : projL u (l.take (k + 1)) = projL u (l.take k) := by
  rw [take_snoc' h]; simp [projL, List.filter_append, h1]
theorem projL_len (u : Int) (l : List Bd) : (projL u l).length ≤ l.length := by unfold projL; rw [List.length_map]; exact List.length_filter_le _ _

/-- the zone and the error of projecting -/
def projectR (n : Int) (bs : List Bd) (u : Int) : Int × List Bd × Int :=
  if zoneErr n bs = 0 then
    if u < 1 ∨ n ≤ u then (0, [], 2)
    else if (closedR n.toNat bs).2 = 0 then (n - 1, projL u (closedR n.toNat bs).1, 0)
    else (0, [], (closedR n.toNat bs).2)
  else (0, [], zoneErr n bs)

/-- a zone and an error are handed back -/
def ZoneRet (w : World) (r : Int × List Bd × Int) (e : Ending) (W : World) : Prop := ∃ v, e = .returned (.tuple #[zoneV r.1 v, .int .i64 r.2.2]) ∧ IsBds W v r.2.1 ∧ Below w.heap.size w W

theorem renum_any (u x : Int) (hx : -1000 ≤ x ∧ x ≤ 1000) (b : Nat) (w : World) (hb : w.cell? ⟨b, 0, none⟩ = some (.int .i64 u)) : Calls Try.prog 47 #[.int .i64 x, .pointer (some ⟨b, 0, none⟩)] w fun e w' => e = .returned (.int .i64 (renum u x)) ∧ w = w' := by
  have hw : IntKind.i64.wrap (x - 1) = x - 1 := IntWalk.i64_in _ (by omega)
  by_cases h : u < x
  · have HR : Hid (renum u x = x - 1) := Lib.hid (by unfold renum; rw [if_pos h])
    go_enter Try.func47, Try.ntmps47
    go_wp2
    go_ret
    rw [HR.out]
    exact ⟨rfl, rfl⟩
  · have HR : Hid (renum u x = x) := Lib.hid (by unfold renum; rw [if_neg h])
    go_enter Try.func47, Try.ntmps47
    go_wp2
    go_ret
    rw [HR.out]
    exact ⟨rfl, rfl⟩

theorem rowE_in (T : Tab) (n x : Nat) (hx : x < n) : ∀ y, y ≤ n → ∀ b ∈ rowE T x y, 0 ≤ b.x ∧ b.x < n ∧ 0 ≤ b.y ∧ b.y < n := by
  intro y
  induction y with
  | zero => intro _ b hb; simp [rowE] at hb
  | succ y ih =>
    intro hy b hb
    simp only [rowE, List.mem_append] at hb
    rcases hb with hb | hb
    · exact ih (by omega) b hb
    · split at hb
      · simp at hb
      · split at hb
        · simp at hb; subst hb; simp only; omega
        · simp at hb
theorem entE_in (T : Tab) (n : Nat) : ∀ x, x ≤ n → ∀ b ∈ entE T n x, 0 ≤ b.x ∧ b.x < n ∧ 0 ≤ b.y ∧ b.y < n := by
  intro x
  induction x with
  | zero => intro _ b hb; simp [entE] at hb
  | succ x ih =>
    intro hx b hb
    simp only [entE, List.mem_append] at hb
    rcases hb with hb | hb
    · exact ih (by omega) b hb
    · exact rowE_in T n x (by omega) n (Nat.le_refl _) b hb
theorem closedR_in {n : Nat} {bs : List Bd} {l : List Bd} {e : Int} (h : closedR n bs = (l, e)) : ∀ b ∈ l, 0 ≤ b.x ∧ b.x < n ∧ 0 ≤ b.y ∧ b.y < n := by
  unfold closedR at h
  split at h
  · split at h
    · injection h with h _; rw [← h]; intro b hb; simp at hb
    · split at h
      · injection h with h _; rw [← h]; exact entE_in _ n n (Nat.le_refl _)
      · injection h with h _; rw [← h]; intro b hb; simp at hb
  · injection h with h _; rw [← h]; intro b hb; simp at hb

/-- three blocks that a call lays first -/
theorem three_cells {w w' : World} {cs ds es : Array Value} {s t r : TypeId} (hb : Below (((w.alloc (.cells cs s)).alloc (.cells ds t)).alloc (.cells es r)).heap.size (((w.alloc (.cells cs s)).alloc (.cells ds t)).alloc (.cells es r)) w') :
    (∀ i, w'.cell? ⟨w.heap.size, i, none⟩ = cs[i]?) ∧ (∀ i, w'.cell? ⟨w.heap.size + 1, i, none⟩ = ds[i]?) ∧ (∀ i, w'.cell? ⟨w.heap.size + 1 + 1, i, none⟩ = es[i]?) ∧ (∀ i, w'.frozen? ⟨w.heap.size + 1 + 1, i, none⟩ = false) ∧ Below w.heap.size w w' ∧ w.heap.size + 2 < w'.heap.size := by
  have h3 := new_cells hb
  have h2 := two_cells (bel_tr (bel_one _ (.cells es r)) hb)
  have h4 := hb.size
  simp only [World.size_alloc] at h3 h4
  exact ⟨h2.1, h2.2.1, h3.1, h3.2, h2.2.2.2.1, by omega⟩

set_option maxRecDepth 100000 in
set_option maxHeartbeats 4000000 in
theorem project_any (n : Int) (hn6 : n ≤ 6) (bs : List Bd) (v : Value) (u : Int) (w : World) (hl : IsBds w v bs) :
    Calls Try.prog 20 #[zoneV n v, .int .i64 u] w (ZoneRet w (projectR n bs u)) := by
  unfold zoneV
  have HL := Lib.hid hl
  obtain ⟨A, c, rfl, -, -, -⟩ := hl
  obtain ⟨e0, he0⟩ : ∃ e, zoneErr n bs = e := ⟨_, rfl⟩
  have HE0 := Lib.hid he0
  by_cases h0 : e0 = 0
  · have g0 : (e0 != 0) = false := by simpa using h0
    obtain ⟨hn1, -, hlen, hgood⟩ := good_of (he0.trans h0)
    have HZ : Hid (zoneErr n bs = 0) := Lib.hid (he0.trans h0)
    obtain ⟨N, rfl⟩ := Int.eq_ofNat_of_zero_le (by omega : 0 ≤ n)
    have HG : Hid (good N bs) := Lib.hid (by rw [Int.toNat_natCast] at hgood; exact hgood)
    clear he0 h0 hgood
    by_cases hu : u < 1 ∨ (N : Int) ≤ u
    · have HR : Hid (projectR N bs u = (0, [], 2)) := Lib.hid (by unfold projectR; rw [if_pos HZ.out, if_pos hu])
      by_cases hu0 : u < 1
      · clear hu
        go_enter Try.func20, Try.ntmps20
        go_wp2_with (go_at_call 32; refine (zcheck_any _ bs _ _ (HL.out.stays bdAt_stays (bel_al (bel_al (bel_one _ _) _) _))).mono ?_; rw [HE0.out]; rintro e w1 ⟨rfl, hb1⟩; obtain ⟨hz, hun, hr, hrf, hbw, hsz⟩ := three_cells hb1; clear hb1)
        rw [HR.out]
        exact bodyPost_ret (v := .tuple #[.agg #[.int .i64 0, .slice none 0 0], .int .i64 2]) (by simp [results, Try.results20, go_sem, hr]) rfl ⟨_, rfl, Sl.nil _ _ _ _ _ (Nat.zero_le _), bel_set (bel_set hbw (by omega) _) (by omega) _⟩
      · have hu1 : (N : Int) ≤ u := by omega
        clear hu
        go_enter Try.func20, Try.ntmps20
        go_wp2_with (go_at_call 32; refine (zcheck_any _ bs _ _ (HL.out.stays bdAt_stays (bel_al (bel_al (bel_one _ _) _) _))).mono ?_; rw [HE0.out]; rintro e w1 ⟨rfl, hb1⟩; obtain ⟨hz, hun, hr, hrf, hbw, hsz⟩ := three_cells hb1; clear hb1)
        rw [HR.out]
        exact bodyPost_ret (v := .tuple #[.agg #[.int .i64 0, .slice none 0 0], .int .i64 2]) (by simp [results, Try.results20, go_sem, hr]) rfl ⟨_, rfl, Sl.nil _ _ _ _ _ (Nat.zero_le _), bel_set (bel_set hbw (by omega) _) (by omega) _⟩
    · have HU := Lib.hid hu
      have hu0 : ¬ u < 1 := by omega
      have hu1 : ¬ (N : Int) ≤ u := by omega
      clear hu
      obtain ⟨⟨l, er⟩, hcl⟩ : ∃ r, closedR N bs = r := ⟨_, rfl⟩
      have HCL := Lib.hid hcl
      clear hcl
      by_cases her : er = 0
      · have g1 : (er != 0) = false := by simpa using her
        have HR : Hid (projectR N bs u = ((N : Int) - 1, projL u l, 0)) := Lib.hid (by
          unfold projectR
          rw [if_pos HZ.out, if_neg HU.out, Int.toNat_natCast, HCL.out]
          simp only
          rw [if_pos her])
        have hll : l.length ≤ 36 := by
          have h := HCL.out
          unfold closedR at h
          have h1 := entE_len (tight N (bs.map ed)) N N
          have h3 : N * N ≤ 6 * 6 := Nat.mul_le_mul (by omega) (by omega)
          split at h
          · split at h
            · injection h with h _; rw [← h]; simp
            · split at h
              · injection h with h _; rw [← h]; omega
              · injection h with h _; rw [← h]; simp
          · injection h with h _; rw [← h]; simp
        have HXY : Hid (∀ b ∈ l, 0 ≤ b.x ∧ b.x < N ∧ 0 ≤ b.y ∧ b.y < N) := Lib.hid (closedR_in HCL.out)
        have hw0 : IntKind.i64.wrap ((N : Int) - 1) = (N : Int) - 1 := IntWalk.i64_in _ (by omega)
        obtain ⟨j0, hj0, hy0, hy1, hy2⟩ := info_parts info_bd
        clear her
        go_enter Try.func20, Try.ntmps20
        go_wp2_with (first
          | (go_at_call 32; refine (zcheck_any _ bs _ _ (HL.out.stays bdAt_stays (bel_al (bel_al (bel_one _ _) _) _))).mono ?_; rw [HE0.out]; rintro e w1 ⟨rfl, hb1⟩; obtain ⟨hz, hun, hr, hrf, hbw, hsz⟩ := three_cells hb1; clear hb1)
          | (go_at_call 45; refine (closed_any N ⟨by omega, by omega⟩ bs _ _ (HL.out.stays bdAt_stays hbw) HG.out hlen).mono ?_; rw [HCL.out]; rintro e w2 ⟨v2, rfl, hq2, hb2⟩; simp only at hq2; obtain ⟨A2, c2, rfl, -, -, hat2⟩ := hq2; have HAT := Lib.hid hat2; clear hat2; replace hr := arr_keep hr (by omega : w.heap.size + 1 + 1 < w1.heap.size) hb2; have hrf2 : ∀ j, w2.frozen? ⟨w.heap.size + 1 + 1, j, none⟩ = false := (fun j => (World.frozen?_of_block (a := ⟨w.heap.size + 1 + 1, j, none⟩) (hb2.block _ (by simp only; omega))).trans (hrf j)); replace hun := arr_keep hun (by omega : w.heap.size + 1 < w1.heap.size) hb2; have hz2 := arr_keep hz (by omega : w.heap.size < w1.heap.size) hb2; have hs2 := hb2.size; replace hbw := bel_tr hbw hb2; clear hrf hz))
        have u0 : w2.cell? ⟨w.heap.size + 1, 0, none⟩ = some (.int .i64 u) := hun 0
        have HB := Lib.hid hbw
        clear hun hz2 hbw hb2
        refine wp_gen ?_
        intro W3 hW3
        have hb3 : Below w2.heap.size w2 W3 := by rw [hW3]; exact bel_one _ _
        have o0 : W3.cell? ⟨w2.heap.size, 0, none⟩ = some (.int .i64 ((N : Int) - 1)) := by rw [hW3]; exact (new_cells (Below.refl _ _)).1 0
        have o1 : W3.cell? ⟨w2.heap.size, 1, none⟩ = some (.slice none 0 0) := by rw [hW3]; exact (new_cells (Below.refl _ _)).1 1
        have of : W3.frozen? ⟨w2.heap.size, 1, none⟩ = false := by rw [hW3]; exact (new_cells (Below.refl _ _)).2 1
        have hs3 : W3.heap.size = w2.heap.size + 1 := by rw [hW3]; simp
        have H3 := Lib.hid (And.intro hb3 (And.intro o0 (And.intro o1 of)))
        clear hW3 hb3 o0 o1 of
        go_loopw [44] (fun i wr => ∃ (k : Nat) (vo : Value), k ≤ l.length ∧ i = .int .i64 k ∧ Hid (wr.cell? ⟨w2.heap.size, 1, none⟩ = some vo ∧ wr.ownsRow (w2.heap.size + 1) 56 3 vo (projL u (l.take k)).length (bdc (projL u (l.take k))) ∧ wr.cell? ⟨w2.heap.size, 0, none⟩ = some (.int .i64 ((N : Int) - 1)) ∧ wr.frozen? ⟨w2.heap.size, 1, none⟩ = false ∧ Below w2.heap.size w2 wr)) (fun i _ => l.length - (intOf i).toNat)
        case atStart => exact ⟨0, _, Nat.zero_le _, rfl, H3.out.2.2.1, ⟨rfl, .inl ⟨rfl, rfl⟩⟩, H3.out.2.1, H3.out.2.2.2, H3.out.1⟩
        case round =>
          obtain ⟨k, vo, hk, rfl, HI⟩ := hrel
          have x1 := HI.out.1
          have xu := cell_stays HI.out.2.2.2.2 u0
          have hbo := World.block_lt_of_cell? wr _ x1
          simp only at hbo
          obtain ⟨Ao, co, hAo⟩ := slice_own HI.out.2.1
          subst hAo
          by_cases hlt : k < l.length
          · have hlt' : (k : Int) < (l.length : Int) := by omega
            have hget := List.getElem?_eq_getElem hlt
            obtain ⟨b, hbk⟩ : ∃ b, b = l[k] := ⟨_, rfl⟩
            rw [← hbk] at hget
            have hin := HXY.out b (by rw [hbk]; exact List.getElem_mem hlt)
            have HGET := Lib.hid hget
            obtain ⟨gb, ob, rfl, p0, p1, p2⟩ := HAT.out k b hget
            clear hget hbk
            replace p0 := cell_stays HI.out.2.2.2.2 p0
            replace p1 := cell_stays HI.out.2.2.2.2 p1
            replace p2 := cell_stays HI.out.2.2.2.2 p2
            have hbl := World.block_lt_of_cell? wr _ p0
            have hul := World.block_lt_of_cell? wr _ xu
            simp only at hbl hul
            have hpl := projL_len u (l.take k)
            rw [List.length_take] at hpl
            by_cases h1 : b.x = u
            · have g2 : (b.x != u) = false := by simpa using h1
              have HP := Lib.hid (projL_no (u := u) HGET.out (by simp [offU, h1]))
              clear h1
              go_wp2_with fail
              go_roundw
              case rel => exact ⟨k + 1, _, by omega, by go_num, by rw [HP.out]; exact Lib.hid ⟨cell_stays (bel_one _ _) x1, ownsRow_below HI.out.2.1 (bel_one _ _), cell_stays (bel_one _ _) HI.out.2.2.1, frozen_stays (bel_one _ _) x1 HI.out.2.2.2.1, bel_al HI.out.2.2.2.2 _⟩⟩
              case measure => simp [intOf]; omega
            · have g2 : (b.x != u) = true := by simpa using h1
              by_cases h2 : b.y = u
              · have g3 : (b.y != u) = false := by simpa using h2
                have HP := Lib.hid (projL_no (u := u) HGET.out (by simp [offU, h2]))
                clear h1 h2
                go_wp2_with fail
                go_roundw
                case rel => exact ⟨k + 1, _, by omega, by go_num, by rw [HP.out]; exact Lib.hid ⟨cell_stays (bel_one _ _) x1, ownsRow_below HI.out.2.1 (bel_one _ _), cell_stays (bel_one _ _) HI.out.2.2.1, frozen_stays (bel_one _ _) x1 HI.out.2.2.2.1, bel_al HI.out.2.2.2.2 _⟩⟩
                case measure => simp [intOf]; omega
              · have g3 : (b.y != u) = true := by simpa using h2
                have HP := Lib.hid (projL_yes (u := u) HGET.out (by simp [offU, h1, h2]))
                clear h1 h2
                obtain ⟨rx, hrx⟩ : ∃ r, renum u b.x = r := ⟨_, rfl⟩
                obtain ⟨ry, hry⟩ : ∃ r, renum u b.y = r := ⟨_, rfl⟩
                have HRX := Lib.hid hrx
                have HRY := Lib.hid hry
                clear hrx hry
                go_wp2_with fail
                refine wp_gen ?_
                intro W1 hW1
                have hb1 : Below wr.heap.size wr W1 := by rw [hW1]; exact bel_one _ _
                have y0 : W1.cell? ⟨wr.heap.size, 0, none⟩ = some (.int .i64 b.x) := by rw [hW1]; exact (new_cells (Below.refl _ _)).1 0
                have y1 : W1.cell? ⟨wr.heap.size, 1, none⟩ = some (.int .i64 b.y) := by rw [hW1]; exact (new_cells (Below.refl _ _)).1 1
                have y2 : W1.cell? ⟨wr.heap.size, 2, none⟩ = some (.int .i64 b.most) := by rw [hW1]; exact (new_cells (Below.refl _ _)).1 2
                clear hW1 p0 p1 p2
                have x1' := cell_stays hb1 x1
                have xu' := cell_stays hb1 xu
                have xf := frozen_stays hb1 x1 HI.out.2.2.2.1
                have HOW := Lib.hid (ownsRow_below HI.out.2.1 hb1)
                have hs1 := hb1.size
                have hnb : w2.heap.size ≠ wr.heap.size := by omega
                have hWs : wr.heap.size < W1.heap.size := by have h5 := World.block_lt_of_cell? W1 _ y0; simpa using h5
                have x1d : ∀ o, (W1.alloc o).drew.cell? ⟨w2.heap.size, 1, none⟩ = some (.slice Ao (projL u (l.take k)).length co) := fun o => cell_stays (bel_one W1 o) x1'
                clear hul hbl hlt' x1 xu HRX HRY
                refine wp_region_noPanic ?_
                refine wp_region_held_drew (S := (fun W => W.cell? ⟨wr.heap.size, 0, none⟩ = some (.int .i64 b.x) ∧ W.cell? ⟨wr.heap.size, 1, none⟩ = some (.int .i64 b.y) ∧ W.cell? ⟨wr.heap.size, 2, none⟩ = some (.int .i64 b.most))) (by kernel_rfl) (⟨y0, y1, y2⟩) (fun hHeld => ?_)
                refine wpAnyH_take (i := 0) (oi := { dst := some 58, op := Op.fieldAddr 24 (Operand.tmp 10) 1, type := 0, pos := "difference.go:282", after := #[], guard := none }) (v := ?_) rfl (by kernel_rfl) (by kernel_rfl) (by kernel_rfl) (fun _ _ _ h => h) (Or.inl ⟨by rfl, ?_⟩) (by assumption) ?_
                rotate_left 1
                · (intro wS hSw; (try dsimp only at hSw); go_simp <;> with_reducible rfl)
                try simp only [Act.put, List.setIfInBounds_toArray, List.set_cons_zero, List.set_cons_succ]
                refine wpAnyH_take (i := 2) (oi := { dst := some 60, op := Op.move (Operand.tmp 9), type := 82, pos := "difference.go:282", after := #[], guard := none }) (v := ?_) rfl (by kernel_rfl) (by kernel_rfl) (by kernel_rfl) (fun _ _ _ h => h) (Or.inl ⟨by rfl, ?_⟩) (by assumption) ?_
                rotate_left 1
                · (intro wS hSw; (try dsimp only at hSw); go_simp <;> with_reducible rfl)
                try simp only [Act.put, List.setIfInBounds_toArray, List.set_cons_zero, List.set_cons_succ]
                refine wpAnyH_take (i := 3) (oi := { dst := some 61, op := Op.fieldAddr 56 (Operand.tmp 12) 0, type := 0, pos := "difference.go:282", after := #[], guard := none }) (v := ?_) rfl (by kernel_rfl) (by kernel_rfl) (by kernel_rfl) (fun _ _ _ h => h) (Or.inl ⟨by rfl, ?_⟩) (by assumption) ?_
                rotate_left 1
                · (intro wS hSw; (try dsimp only at hSw); go_simp <;> with_reducible rfl)
                try simp only [Act.put, List.setIfInBounds_toArray, List.set_cons_zero, List.set_cons_succ]
                refine wpAnyH_take (i := 4) (oi := { dst := some 62, op := Op.load 3 (Operand.tmp 61), type := 3, pos := "difference.go:282", after := #[{ on := 3, ground := Ground.data }], guard := none }) (v := ?_) rfl (by kernel_rfl) (by kernel_rfl) (by kernel_rfl) (fun _ _ _ h => h) (Or.inl ⟨by rfl, ?_⟩) (by assumption) ?_
                rotate_left 1
                · (intro wS hSw; (try dsimp only at hSw); go_simp <;> with_reducible rfl)
                try simp only [Act.put, List.setIfInBounds_toArray, List.set_cons_zero, List.set_cons_succ]
                refine wpAnyH_take (i := 6) (oi := { dst := some 64, op := Op.move (Operand.tmp 9), type := 82, pos := "difference.go:282", after := #[], guard := none }) (v := ?_) rfl (by kernel_rfl) (by kernel_rfl) (by kernel_rfl) (fun _ _ _ h => h) (Or.inl ⟨by rfl, ?_⟩) (by assumption) ?_
                rotate_left 1
                · (intro wS hSw; (try dsimp only at hSw); go_simp <;> with_reducible rfl)
                try simp only [Act.put, List.setIfInBounds_toArray, List.set_cons_zero, List.set_cons_succ]
                refine wpAnyH_take (i := 7) (oi := { dst := some 65, op := Op.fieldAddr 56 (Operand.tmp 12) 1, type := 0, pos := "difference.go:282", after := #[], guard := none }) (v := ?_) rfl (by kernel_rfl) (by kernel_rfl) (by kernel_rfl) (fun _ _ _ h => h) (Or.inl ⟨by rfl, ?_⟩) (by assumption) ?_
                rotate_left 1
                · (intro wS hSw; (try dsimp only at hSw); go_simp <;> with_reducible rfl)
                try simp only [Act.put, List.setIfInBounds_toArray, List.set_cons_zero, List.set_cons_succ]
                refine wpAnyH_take (i := 8) (oi := { dst := some 66, op := Op.load 3 (Operand.tmp 65), type := 3, pos := "difference.go:282", after := #[{ on := 7, ground := Ground.data }], guard := none }) (v := ?_) rfl (by kernel_rfl) (by kernel_rfl) (by kernel_rfl) (fun _ _ _ h => h) (Or.inl ⟨by rfl, ?_⟩) (by assumption) ?_
                rotate_left 1
                · (intro wS hSw; (try dsimp only at hSw); go_simp <;> with_reducible rfl)
                try simp only [Act.put, List.setIfInBounds_toArray, List.set_cons_zero, List.set_cons_succ]
                refine wpAnyH_take (i := 10) (oi := { dst := some 68, op := Op.fieldAddr 56 (Operand.tmp 12) 2, type := 0, pos := "difference.go:282", after := #[], guard := none }) (v := ?_) rfl (by kernel_rfl) (by kernel_rfl) (by kernel_rfl) (fun _ _ _ h => h) (Or.inl ⟨by rfl, ?_⟩) (by assumption) ?_
                rotate_left 1
                · (intro wS hSw; (try dsimp only at hSw); go_simp <;> with_reducible rfl)
                try simp only [Act.put, List.setIfInBounds_toArray, List.set_cons_zero, List.set_cons_succ]
                refine wpAnyH_take (i := 11) (oi := { dst := some 69, op := Op.load 3 (Operand.tmp 68), type := 3, pos := "difference.go:282", after := #[{ on := 10, ground := Ground.data }], guard := none }) (v := ?_) rfl (by kernel_rfl) (by kernel_rfl) (by kernel_rfl) (fun _ _ _ h => h) (Or.inl ⟨by rfl, ?_⟩) (by assumption) ?_
                rotate_left 1
                · (intro wS hSw; (try dsimp only at hSw); go_simp <;> with_reducible rfl)
                try simp only [Act.put, List.setIfInBounds_toArray, List.set_cons_zero, List.set_cons_succ]
                refine wpAnyH_ready (rs := [1, 5]) (by kernel_rfl) (by simp) ?_
                refine AllReadyH.cons (o := { dst := some 59, op := Op.load 22 (Operand.tmp 58), type := 22, pos := "difference.go:282", after := #[{ on := 0, ground := Ground.data }], guard := none }) rfl (fun K hK => ?_) ?_
                · go_simp
                  refine hK.out _ _ (⟨y0, y1, y2⟩) (fun hHeld => ?_)
                  clear hK K
                  try simp only [Act.put, List.setIfInBounds_toArray, List.set_cons_zero, List.set_cons_succ]
                  refine wpAnyH_ready (rs := [5]) (by kernel_rfl) (by simp) ?_
                  refine AllReadyH.cons (o := { dst := some 63, op := Op.call { callee := Callee.value (Operand.tmp 60), args := #[Operand.tmp 62], argTypes := #[3] }, type := 3, pos := "difference.go:282", after := #[{ on := 2, ground := Ground.data }, { on := 4, ground := Ground.data }], guard := none }) rfl (fun K hK => ?_) ?_
                  · (go_simp; go_at_call 47; refine (renum_any u _ (by omega) (w.heap.size + 1) W1.drew xu').mono ?_; rintro e w7 ⟨rfl, rfl⟩; go_wp2_with fail)
                    refine hK.out _ _ (⟨y0, y1, y2⟩) (fun hHeld => ?_)
                    clear hK K
                    try simp only [Act.put, List.setIfInBounds_toArray, List.set_cons_zero, List.set_cons_succ]
                    refine wpAnyH_ready (rs := [9]) (by kernel_rfl) (by simp) ?_
                    refine AllReadyH.cons (o := { dst := some 67, op := Op.call { callee := Callee.value (Operand.tmp 64), args := #[Operand.tmp 66], argTypes := #[3] }, type := 3, pos := "difference.go:282", after := #[{ on := 6, ground := Ground.data }, { on := 8, ground := Ground.data }, { on := 5, ground := Ground.chain }], guard := none }) rfl (fun K hK => ?_) ?_
                    · (go_simp; go_at_call 47; refine (renum_any u _ (by omega) (w.heap.size + 1) W1.drew xu').mono ?_; rintro e w7 ⟨rfl, rfl⟩; go_wp2_with fail)
                      refine hK.out _ _ (⟨y0, y1, y2⟩) (fun hHeld => ?_)
                      clear hK K
                      try simp only [Act.put, List.setIfInBounds_toArray, List.set_cons_zero, List.set_cons_succ]
                      refine wpAnyH_take (i := 12) (oi := { dst := some 70, op := Op.build 56 #[(0, Operand.tmp 63), (1, Operand.tmp 67), (2, Operand.tmp 69)], type := 56, pos := "difference.go:282", after := #[{ on := 5, ground := Ground.data }, { on := 9, ground := Ground.data }, { on := 11, ground := Ground.data }], guard := none }) (v := ?_) rfl (by kernel_rfl) (by kernel_rfl) (by kernel_rfl) (fun _ _ _ h => h) (Or.inl ⟨by rfl, ?_⟩) (by assumption) ?_
                      rotate_left 1
                      · (intro wS hSw; (try dsimp only at hSw); go_simp <;> with_reducible rfl)
                      try simp only [Act.put, List.setIfInBounds_toArray, List.set_cons_zero, List.set_cons_succ]
                      refine wpAnyH_ready (rs := [13]) (by kernel_rfl) (by simp) ?_
                      refine AllReadyH.cons (o := { dst := some 71, op := Op.buildSlice 22 1 #[(0, Operand.tmp 70)], type := 22, pos := "difference.go:282", after := #[{ on := 12, ground := Ground.data }], guard := none }) rfl (fun K hK => ?_) ?_
                      · go_simp
                        refine hK.out _ _ (⟨cell_stays (bel_one _ _) y0, cell_stays (bel_one _ _) y1, cell_stays (bel_one _ _) y2⟩) (fun hHeld => ?_)
                        clear hK K
                        try simp only [Act.put, List.setIfInBounds_toArray, List.set_cons_zero, List.set_cons_succ]
                        refine wpAnyH_ready (rs := [14]) (by kernel_rfl) (by simp) ?_
                        refine AllReadyH.cons (o := { dst := some 72, op := Op.call { callee := Callee.builtin Builtin.append, args := #[Operand.tmp 59, Operand.tmp 71], argTypes := #[22, 22] }, type := 22, pos := "difference.go:282", after := #[{ on := 1, ground := Ground.data }, { on := 13, ground := Ground.data }, { on := 9, ground := Ground.chain }], guard := none }) rfl (fun K hK => ?_) ?_
                        · (refine step_app _ rfl (.tmp 59) (.tmp 71) 22 rfl (w2.heap.size + 1) 56 j0 _ 3 24 Try.underlying22 hj0 hy0 hy1 hy2 rfl (by decide) (.slice Ao (projL u (l.take k)).length co) (projL u (l.take k)).length (bdc (projL u (l.take k))) rfl (ownsRow_below HOW.out (bel_one _ _).drew) (some ⟨W1.heap.size, 0, none⟩) 1 1 [.int .i64 (renum u b.x), .int .i64 (renum u b.y), .int .i64 b.most] rfl (src_new' W1 [.int .i64 (renum u b.x), .int .i64 (renum u b.y), .int .i64 b.most] _ 1 3 _ rfl rfl (by simp [Value.oneCell'])) (by unfold maxLen; omega) (by omega) (by simp; omega) ?_; intro v6 w6 hown6 hg6 hloc6; have HO6 := Lib.hid hown6; have hbk : ∀ b', b' < W1.heap.size → b' < w2.heap.size + 1 ∨ b' = wr.heap.size → w6.heap[b']? = W1.heap[b']? := (fun b' h1 h2 => (hg6.block b' (by simp; omega) (fun e => by have h5 := ownsRow_lt HI.out.2.1 e.symm; omega)).trans (Below.heap_alloc W1 _ b' h1)); have k0 : w6.cell? ⟨wr.heap.size, 0, none⟩ = some (.int .i64 b.x) := (World.cell?_of_block (a := ⟨wr.heap.size, 0, none⟩) (hbk wr.heap.size hWs (.inr rfl))).trans y0; have k1 : w6.cell? ⟨wr.heap.size, 1, none⟩ = some (.int .i64 b.y) := (World.cell?_of_block (a := ⟨wr.heap.size, 1, none⟩) (hbk wr.heap.size hWs (.inr rfl))).trans y1; have k2 : w6.cell? ⟨wr.heap.size, 2, none⟩ = some (.int .i64 b.most) := (World.cell?_of_block (a := ⟨wr.heap.size, 2, none⟩) (hbk wr.heap.size hWs (.inr rfl))).trans y2; have hbk2 := hbk w2.heap.size (by omega) (.inl (by omega)); have x6 : w6.cell? ⟨w2.heap.size, 1, none⟩ = some (.slice Ao (projL u (l.take k)).length co) := (World.cell?_of_block (a := ⟨w2.heap.size, 1, none⟩) hbk2).trans x1'; have xf6 : w6.frozen? ⟨w2.heap.size, 1, none⟩ = false := (World.frozen?_of_block (a := ⟨w2.heap.size, 1, none⟩) hbk2).trans xf; have X06 : Hid (w6.cell? ⟨w2.heap.size, 0, none⟩ = some (.int .i64 ((N : Int) - 1))) := Lib.hid ((World.cell?_of_block (a := ⟨w2.heap.size, 0, none⟩) hbk2).trans (cell_stays hb1 HI.out.2.2.1)); have HB6 : Hid (Below w2.heap.size w2 w6) := Lib.hid (((bel_al (bel_tr HI.out.2.2.2.2 hb1) _).drew).trans (grown_below hg6 (by simp; omega) (fun g h => by have := (ownsRow_lt HI.out.2.1 h).1; omega))); obtain ⟨A6, c6, rfl⟩ := slice_own hown6; clear hown6 hg6 hloc6 hbk hbk2)
                          refine hK.out _ _ (⟨k0, k1, k2⟩) (fun hHeld => ?_)
                          clear hK K
                          try simp only [Act.put, List.setIfInBounds_toArray, List.set_cons_zero, List.set_cons_succ]
                          refine wpAnyH_take (i := 15) (oi := { dst := some 73, op := Op.fieldAddr 24 (Operand.tmp 10) 1, type := 0, pos := "difference.go:282", after := #[{ on := 0, ground := Ground.phase }, { on := 1, ground := Ground.phase }, { on := 2, ground := Ground.phase }, { on := 3, ground := Ground.phase }, { on := 4, ground := Ground.phase }, { on := 5, ground := Ground.phase }, { on := 6, ground := Ground.phase }, { on := 7, ground := Ground.phase }, { on := 8, ground := Ground.phase }, { on := 9, ground := Ground.phase }, { on := 10, ground := Ground.phase }, { on := 11, ground := Ground.phase }, { on := 12, ground := Ground.phase }, { on := 13, ground := Ground.phase }, { on := 14, ground := Ground.phase }], guard := none }) (v := ?_) rfl (by kernel_rfl) (by kernel_rfl) (by kernel_rfl) (fun _ _ _ h => h) (Or.inl ⟨by rfl, ?_⟩) (by assumption) ?_
                          rotate_left 1
                          · (intro wS hSw; (try dsimp only at hSw); go_simp <;> with_reducible rfl)
                          try simp only [Act.put, List.setIfInBounds_toArray, List.set_cons_zero, List.set_cons_succ]
                          refine wpAnyH_ready (rs := [16]) (by kernel_rfl) (by simp) ?_
                          refine AllReadyH.cons (o := { dst := none, op := Op.store 22 (Operand.tmp 73) (Operand.tmp 72), type := 0, pos := "difference.go:282", after := #[{ on := 15, ground := Ground.data }, { on := 14, ground := Ground.data }, { on := 14, ground := Ground.chain }, { on := 0, ground := Ground.phase }, { on := 1, ground := Ground.phase }, { on := 2, ground := Ground.phase }, { on := 3, ground := Ground.phase }, { on := 4, ground := Ground.phase }, { on := 5, ground := Ground.phase }, { on := 6, ground := Ground.phase }, { on := 7, ground := Ground.phase }, { on := 8, ground := Ground.phase }, { on := 9, ground := Ground.phase }, { on := 10, ground := Ground.phase }, { on := 11, ground := Ground.phase }, { on := 12, ground := Ground.phase }, { on := 13, ground := Ground.phase }, { on := 14, ground := Ground.phase }], guard := none }) rfl (fun K hK => ?_) ?_
                          · go_simp
                            refine hK.out _ _ (⟨(cell_far hnb _).trans k0, (cell_far hnb _).trans k1, (cell_far hnb _).trans k2⟩) (fun hHeld => ?_)
                            clear hK K
                            try simp only [Act.put, List.setIfInBounds_toArray, List.set_cons_zero, List.set_cons_succ]
                            refine wpAnyH_done (by kernel_rfl) (NoPanic.normal ?_) _
                            go_wp2_with fail
                            go_roundw
                            case rel =>
                              refine ⟨k + 1, _, by omega, by go_num, Lib.hid ⟨cell_same x6, ?_, (cell_ne (by omega)).trans X06.out, by rw [World.frozen?_setCell]; exact xf6, bel_set HB6.out (Nat.le_refl _) _⟩⟩
                              rw [HP.out, List.length_append, bdc_app, bdc_one]
                              have h8 := HO6.out
                              simp only [reBd]
                              exact ownsRow_kept h8 (fun g hg => Below.heap_setCell w6 ⟨w2.heap.size, 1, none⟩ _ g (by have := (ownsRow_lt h8 hg).1; simp only; omega))
                            case measure => simp [intOf]; omega
                          exact AllReadyH.nil
                        exact AllReadyH.nil
                      exact AllReadyH.nil
                    exact AllReadyH.nil
                  exact AllReadyH.nil
                refine AllReadyH.cons (o := { dst := some 63, op := Op.call { callee := Callee.value (Operand.tmp 60), args := #[Operand.tmp 62], argTypes := #[3] }, type := 3, pos := "difference.go:282", after := #[{ on := 2, ground := Ground.data }, { on := 4, ground := Ground.data }], guard := none }) rfl (fun K hK => ?_) ?_
                · (go_simp; go_at_call 47; refine (renum_any u _ (by omega) (w.heap.size + 1) W1.drew xu').mono ?_; rintro e w7 ⟨rfl, rfl⟩; go_wp2_with fail)
                  refine hK.out _ _ (⟨y0, y1, y2⟩) (fun hHeld => ?_)
                  clear hK K
                  try simp only [Act.put, List.setIfInBounds_toArray, List.set_cons_zero, List.set_cons_succ]
                  refine wpAnyH_ready (rs := [1, 9]) (by kernel_rfl) (by simp) ?_
                  refine AllReadyH.cons (o := { dst := some 59, op := Op.load 22 (Operand.tmp 58), type := 22, pos := "difference.go:282", after := #[{ on := 0, ground := Ground.data }], guard := none }) rfl (fun K hK => ?_) ?_
                  · go_simp
                    refine hK.out _ _ (⟨y0, y1, y2⟩) (fun hHeld => ?_)
                    clear hK K
                    try simp only [Act.put, List.setIfInBounds_toArray, List.set_cons_zero, List.set_cons_succ]
                    refine wpAnyH_ready (rs := [9]) (by kernel_rfl) (by simp) ?_
                    refine AllReadyH.cons (o := { dst := some 67, op := Op.call { callee := Callee.value (Operand.tmp 64), args := #[Operand.tmp 66], argTypes := #[3] }, type := 3, pos := "difference.go:282", after := #[{ on := 6, ground := Ground.data }, { on := 8, ground := Ground.data }, { on := 5, ground := Ground.chain }], guard := none }) rfl (fun K hK => ?_) ?_
                    · (go_simp; go_at_call 47; refine (renum_any u _ (by omega) (w.heap.size + 1) W1.drew xu').mono ?_; rintro e w7 ⟨rfl, rfl⟩; go_wp2_with fail)
                      refine hK.out _ _ (⟨y0, y1, y2⟩) (fun hHeld => ?_)
                      clear hK K
                      try simp only [Act.put, List.setIfInBounds_toArray, List.set_cons_zero, List.set_cons_succ]
                      refine wpAnyH_take (i := 12) (oi := { dst := some 70, op := Op.build 56 #[(0, Operand.tmp 63), (1, Operand.tmp 67), (2, Operand.tmp 69)], type := 56, pos := "difference.go:282", after := #[{ on := 5, ground := Ground.data }, { on := 9, ground := Ground.data }, { on := 11, ground := Ground.data }], guard := none }) (v := ?_) rfl (by kernel_rfl) (by kernel_rfl) (by kernel_rfl) (fun _ _ _ h => h) (Or.inl ⟨by rfl, ?_⟩) (by assumption) ?_
                      rotate_left 1
                      · (intro wS hSw; (try dsimp only at hSw); go_simp <;> with_reducible rfl)
                      try simp only [Act.put, List.setIfInBounds_toArray, List.set_cons_zero, List.set_cons_succ]
                      refine wpAnyH_ready (rs := [13]) (by kernel_rfl) (by simp) ?_
                      refine AllReadyH.cons (o := { dst := some 71, op := Op.buildSlice 22 1 #[(0, Operand.tmp 70)], type := 22, pos := "difference.go:282", after := #[{ on := 12, ground := Ground.data }], guard := none }) rfl (fun K hK => ?_) ?_
                      · go_simp
                        refine hK.out _ _ (⟨cell_stays (bel_one _ _) y0, cell_stays (bel_one _ _) y1, cell_stays (bel_one _ _) y2⟩) (fun hHeld => ?_)
                        clear hK K
                        try simp only [Act.put, List.setIfInBounds_toArray, List.set_cons_zero, List.set_cons_succ]
                        refine wpAnyH_ready (rs := [14]) (by kernel_rfl) (by simp) ?_
                        refine AllReadyH.cons (o := { dst := some 72, op := Op.call { callee := Callee.builtin Builtin.append, args := #[Operand.tmp 59, Operand.tmp 71], argTypes := #[22, 22] }, type := 22, pos := "difference.go:282", after := #[{ on := 1, ground := Ground.data }, { on := 13, ground := Ground.data }, { on := 9, ground := Ground.chain }], guard := none }) rfl (fun K hK => ?_) ?_
                        · (refine step_app _ rfl (.tmp 59) (.tmp 71) 22 rfl (w2.heap.size + 1) 56 j0 _ 3 24 Try.underlying22 hj0 hy0 hy1 hy2 rfl (by decide) (.slice Ao (projL u (l.take k)).length co) (projL u (l.take k)).length (bdc (projL u (l.take k))) rfl (ownsRow_below HOW.out (bel_one _ _).drew) (some ⟨W1.heap.size, 0, none⟩) 1 1 [.int .i64 (renum u b.x), .int .i64 (renum u b.y), .int .i64 b.most] rfl (src_new' W1 [.int .i64 (renum u b.x), .int .i64 (renum u b.y), .int .i64 b.most] _ 1 3 _ rfl rfl (by simp [Value.oneCell'])) (by unfold maxLen; omega) (by omega) (by simp; omega) ?_; intro v6 w6 hown6 hg6 hloc6; have HO6 := Lib.hid hown6; have hbk : ∀ b', b' < W1.heap.size → b' < w2.heap.size + 1 ∨ b' = wr.heap.size → w6.heap[b']? = W1.heap[b']? := (fun b' h1 h2 => (hg6.block b' (by simp; omega) (fun e => by have h5 := ownsRow_lt HI.out.2.1 e.symm; omega)).trans (Below.heap_alloc W1 _ b' h1)); have k0 : w6.cell? ⟨wr.heap.size, 0, none⟩ = some (.int .i64 b.x) := (World.cell?_of_block (a := ⟨wr.heap.size, 0, none⟩) (hbk wr.heap.size hWs (.inr rfl))).trans y0; have k1 : w6.cell? ⟨wr.heap.size, 1, none⟩ = some (.int .i64 b.y) := (World.cell?_of_block (a := ⟨wr.heap.size, 1, none⟩) (hbk wr.heap.size hWs (.inr rfl))).trans y1; have k2 : w6.cell? ⟨wr.heap.size, 2, none⟩ = some (.int .i64 b.most) := (World.cell?_of_block (a := ⟨wr.heap.size, 2, none⟩) (hbk wr.heap.size hWs (.inr rfl))).trans y2; have hbk2 := hbk w2.heap.size (by omega) (.inl (by omega)); have x6 : w6.cell? ⟨w2.heap.size, 1, none⟩ = some (.slice Ao (projL u (l.take k)).length co) := (World.cell?_of_block (a := ⟨w2.heap.size, 1, none⟩) hbk2).trans x1'; have xf6 : w6.frozen? ⟨w2.heap.size, 1, none⟩ = false := (World.frozen?_of_block (a := ⟨w2.heap.size, 1, none⟩) hbk2).trans xf; have X06 : Hid (w6.cell? ⟨w2.heap.size, 0, none⟩ = some (.int .i64 ((N : Int) - 1))) := Lib.hid ((World.cell?_of_block (a := ⟨w2.heap.size, 0, none⟩) hbk2).trans (cell_stays hb1 HI.out.2.2.1)); have HB6 : Hid (Below w2.heap.size w2 w6) := Lib.hid (((bel_al (bel_tr HI.out.2.2.2.2 hb1) _).drew).trans (grown_below hg6 (by simp; omega) (fun g h => by have := (ownsRow_lt HI.out.2.1 h).1; omega))); obtain ⟨A6, c6, rfl⟩ := slice_own hown6; clear hown6 hg6 hloc6 hbk hbk2)
                          refine hK.out _ _ (⟨k0, k1, k2⟩) (fun hHeld => ?_)
                          clear hK K
                          try simp only [Act.put, List.setIfInBounds_toArray, List.set_cons_zero, List.set_cons_succ]
                          refine wpAnyH_take (i := 15) (oi := { dst := some 73, op := Op.fieldAddr 24 (Operand.tmp 10) 1, type := 0, pos := "difference.go:282", after := #[{ on := 0, ground := Ground.phase }, { on := 1, ground := Ground.phase }, { on := 2, ground := Ground.phase }, { on := 3, ground := Ground.phase }, { on := 4, ground := Ground.phase }, { on := 5, ground := Ground.phase }, { on := 6, ground := Ground.phase }, { on := 7, ground := Ground.phase }, { on := 8, ground := Ground.phase }, { on := 9, ground := Ground.phase }, { on := 10, ground := Ground.phase }, { on := 11, ground := Ground.phase }, { on := 12, ground := Ground.phase }, { on := 13, ground := Ground.phase }, { on := 14, ground := Ground.phase }], guard := none }) (v := ?_) rfl (by kernel_rfl) (by kernel_rfl) (by kernel_rfl) (fun _ _ _ h => h) (Or.inl ⟨by rfl, ?_⟩) (by assumption) ?_
                          rotate_left 1
                          · (intro wS hSw; (try dsimp only at hSw); go_simp <;> with_reducible rfl)
                          try simp only [Act.put, List.setIfInBounds_toArray, List.set_cons_zero, List.set_cons_succ]
                          refine wpAnyH_ready (rs := [16]) (by kernel_rfl) (by simp) ?_
                          refine AllReadyH.cons (o := { dst := none, op := Op.store 22 (Operand.tmp 73) (Operand.tmp 72), type := 0, pos := "difference.go:282", after := #[{ on := 15, ground := Ground.data }, { on := 14, ground := Ground.data }, { on := 14, ground := Ground.chain }, { on := 0, ground := Ground.phase }, { on := 1, ground := Ground.phase }, { on := 2, ground := Ground.phase }, { on := 3, ground := Ground.phase }, { on := 4, ground := Ground.phase }, { on := 5, ground := Ground.phase }, { on := 6, ground := Ground.phase }, { on := 7, ground := Ground.phase }, { on := 8, ground := Ground.phase }, { on := 9, ground := Ground.phase }, { on := 10, ground := Ground.phase }, { on := 11, ground := Ground.phase }, { on := 12, ground := Ground.phase }, { on := 13, ground := Ground.phase }, { on := 14, ground := Ground.phase }], guard := none }) rfl (fun K hK => ?_) ?_
                          · go_simp
                            refine hK.out _ _ (⟨(cell_far hnb _).trans k0, (cell_far hnb _).trans k1, (cell_far hnb _).trans k2⟩) (fun hHeld => ?_)
                            clear hK K
                            try simp only [Act.put, List.setIfInBounds_toArray, List.set_cons_zero, List.set_cons_succ]
                            refine wpAnyH_done (by kernel_rfl) (NoPanic.normal ?_) _
                            go_wp2_with fail
                            go_roundw
                            case rel =>
                              refine ⟨k + 1, _, by omega, by go_num, Lib.hid ⟨cell_same x6, ?_, (cell_ne (by omega)).trans X06.out, by rw [World.frozen?_setCell]; exact xf6, bel_set HB6.out (Nat.le_refl _) _⟩⟩
                              rw [HP.out, List.length_append, bdc_app, bdc_one]
                              have h8 := HO6.out
                              simp only [reBd]
                              exact ownsRow_kept h8 (fun g hg => Below.heap_setCell w6 ⟨w2.heap.size, 1, none⟩ _ g (by have := (ownsRow_lt h8 hg).1; simp only; omega))
                            case measure => simp [intOf]; omega
                          exact AllReadyH.nil
                        exact AllReadyH.nil
                      exact AllReadyH.nil
                    exact AllReadyH.nil
                  refine AllReadyH.cons (o := { dst := some 67, op := Op.call { callee := Callee.value (Operand.tmp 64), args := #[Operand.tmp 66], argTypes := #[3] }, type := 3, pos := "difference.go:282", after := #[{ on := 6, ground := Ground.data }, { on := 8, ground := Ground.data }, { on := 5, ground := Ground.chain }], guard := none }) rfl (fun K hK => ?_) ?_
                  · (go_simp; go_at_call 47; refine (renum_any u _ (by omega) (w.heap.size + 1) W1.drew xu').mono ?_; rintro e w7 ⟨rfl, rfl⟩; go_wp2_with fail)
                    refine hK.out _ _ (⟨y0, y1, y2⟩) (fun hHeld => ?_)
                    clear hK K
                    try simp only [Act.put, List.setIfInBounds_toArray, List.set_cons_zero, List.set_cons_succ]
                    refine wpAnyH_take (i := 12) (oi := { dst := some 70, op := Op.build 56 #[(0, Operand.tmp 63), (1, Operand.tmp 67), (2, Operand.tmp 69)], type := 56, pos := "difference.go:282", after := #[{ on := 5, ground := Ground.data }, { on := 9, ground := Ground.data }, { on := 11, ground := Ground.data }], guard := none }) (v := ?_) rfl (by kernel_rfl) (by kernel_rfl) (by kernel_rfl) (fun _ _ _ h => h) (Or.inl ⟨by rfl, ?_⟩) (by assumption) ?_
                    rotate_left 1
                    · (intro wS hSw; (try dsimp only at hSw); go_simp <;> with_reducible rfl)
                    try simp only [Act.put, List.setIfInBounds_toArray, List.set_cons_zero, List.set_cons_succ]
                    refine wpAnyH_ready (rs := [1, 13]) (by kernel_rfl) (by simp) ?_
                    refine AllReadyH.cons (o := { dst := some 59, op := Op.load 22 (Operand.tmp 58), type := 22, pos := "difference.go:282", after := #[{ on := 0, ground := Ground.data }], guard := none }) rfl (fun K hK => ?_) ?_
                    · go_simp
                      refine hK.out _ _ (⟨y0, y1, y2⟩) (fun hHeld => ?_)
                      clear hK K
                      try simp only [Act.put, List.setIfInBounds_toArray, List.set_cons_zero, List.set_cons_succ]
                      refine wpAnyH_ready (rs := [13]) (by kernel_rfl) (by simp) ?_
                      refine AllReadyH.cons (o := { dst := some 71, op := Op.buildSlice 22 1 #[(0, Operand.tmp 70)], type := 22, pos := "difference.go:282", after := #[{ on := 12, ground := Ground.data }], guard := none }) rfl (fun K hK => ?_) ?_
                      · go_simp
                        refine hK.out _ _ (⟨cell_stays (bel_one _ _) y0, cell_stays (bel_one _ _) y1, cell_stays (bel_one _ _) y2⟩) (fun hHeld => ?_)
                        clear hK K
                        try simp only [Act.put, List.setIfInBounds_toArray, List.set_cons_zero, List.set_cons_succ]
                        refine wpAnyH_ready (rs := [14]) (by kernel_rfl) (by simp) ?_
                        refine AllReadyH.cons (o := { dst := some 72, op := Op.call { callee := Callee.builtin Builtin.append, args := #[Operand.tmp 59, Operand.tmp 71], argTypes := #[22, 22] }, type := 22, pos := "difference.go:282", after := #[{ on := 1, ground := Ground.data }, { on := 13, ground := Ground.data }, { on := 9, ground := Ground.chain }], guard := none }) rfl (fun K hK => ?_) ?_
                        · (refine step_app _ rfl (.tmp 59) (.tmp 71) 22 rfl (w2.heap.size + 1) 56 j0 _ 3 24 Try.underlying22 hj0 hy0 hy1 hy2 rfl (by decide) (.slice Ao (projL u (l.take k)).length co) (projL u (l.take k)).length (bdc (projL u (l.take k))) rfl (ownsRow_below HOW.out (bel_one _ _).drew) (some ⟨W1.heap.size, 0, none⟩) 1 1 [.int .i64 (renum u b.x), .int .i64 (renum u b.y), .int .i64 b.most] rfl (src_new' W1 [.int .i64 (renum u b.x), .int .i64 (renum u b.y), .int .i64 b.most] _ 1 3 _ rfl rfl (by simp [Value.oneCell'])) (by unfold maxLen; omega) (by omega) (by simp; omega) ?_; intro v6 w6 hown6 hg6 hloc6; have HO6 := Lib.hid hown6; have hbk : ∀ b', b' < W1.heap.size → b' < w2.heap.size + 1 ∨ b' = wr.heap.size → w6.heap[b']? = W1.heap[b']? := (fun b' h1 h2 => (hg6.block b' (by simp; omega) (fun e => by have h5 := ownsRow_lt HI.out.2.1 e.symm; omega)).trans (Below.heap_alloc W1 _ b' h1)); have k0 : w6.cell? ⟨wr.heap.size, 0, none⟩ = some (.int .i64 b.x) := (World.cell?_of_block (a := ⟨wr.heap.size, 0, none⟩) (hbk wr.heap.size hWs (.inr rfl))).trans y0; have k1 : w6.cell? ⟨wr.heap.size, 1, none⟩ = some (.int .i64 b.y) := (World.cell?_of_block (a := ⟨wr.heap.size, 1, none⟩) (hbk wr.heap.size hWs (.inr rfl))).trans y1; have k2 : w6.cell? ⟨wr.heap.size, 2, none⟩ = some (.int .i64 b.most) := (World.cell?_of_block (a := ⟨wr.heap.size, 2, none⟩) (hbk wr.heap.size hWs (.inr rfl))).trans y2; have hbk2 := hbk w2.heap.size (by omega) (.inl (by omega)); have x6 : w6.cell? ⟨w2.heap.size, 1, none⟩ = some (.slice Ao (projL u (l.take k)).length co) := (World.cell?_of_block (a := ⟨w2.heap.size, 1, none⟩) hbk2).trans x1'; have xf6 : w6.frozen? ⟨w2.heap.size, 1, none⟩ = false := (World.frozen?_of_block (a := ⟨w2.heap.size, 1, none⟩) hbk2).trans xf; have X06 : Hid (w6.cell? ⟨w2.heap.size, 0, none⟩ = some (.int .i64 ((N : Int) - 1))) := Lib.hid ((World.cell?_of_block (a := ⟨w2.heap.size, 0, none⟩) hbk2).trans (cell_stays hb1 HI.out.2.2.1)); have HB6 : Hid (Below w2.heap.size w2 w6) := Lib.hid (((bel_al (bel_tr HI.out.2.2.2.2 hb1) _).drew).trans (grown_below hg6 (by simp; omega) (fun g h => by have := (ownsRow_lt HI.out.2.1 h).1; omega))); obtain ⟨A6, c6, rfl⟩ := slice_own hown6; clear hown6 hg6 hloc6 hbk hbk2)
                          refine hK.out _ _ (⟨k0, k1, k2⟩) (fun hHeld => ?_)
                          clear hK K
                          try simp only [Act.put, List.setIfInBounds_toArray, List.set_cons_zero, List.set_cons_succ]
                          refine wpAnyH_take (i := 15) (oi := { dst := some 73, op := Op.fieldAddr 24 (Operand.tmp 10) 1, type := 0, pos := "difference.go:282", after := #[{ on := 0, ground := Ground.phase }, { on := 1, ground := Ground.phase }, { on := 2, ground := Ground.phase }, { on := 3, ground := Ground.phase }, { on := 4, ground := Ground.phase }, { on := 5, ground := Ground.phase }, { on := 6, ground := Ground.phase }, { on := 7, ground := Ground.phase }, { on := 8, ground := Ground.phase }, { on := 9, ground := Ground.phase }, { on := 10, ground := Ground.phase }, { on := 11, ground := Ground.phase }, { on := 12, ground := Ground.phase }, { on := 13, ground := Ground.phase }, { on := 14, ground := Ground.phase }], guard := none }) (v := ?_) rfl (by kernel_rfl) (by kernel_rfl) (by kernel_rfl) (fun _ _ _ h => h) (Or.inl ⟨by rfl, ?_⟩) (by assumption) ?_
                          rotate_left 1
                          · (intro wS hSw; (try dsimp only at hSw); go_simp <;> with_reducible rfl)
                          try simp only [Act.put, List.setIfInBounds_toArray, List.set_cons_zero, List.set_cons_succ]
                          refine wpAnyH_ready (rs := [16]) (by kernel_rfl) (by simp) ?_
                          refine AllReadyH.cons (o := { dst := none, op := Op.store 22 (Operand.tmp 73) (Operand.tmp 72), type := 0, pos := "difference.go:282", after := #[{ on := 15, ground := Ground.data }, { on := 14, ground := Ground.data }, { on := 14, ground := Ground.chain }, { on := 0, ground := Ground.phase }, { on := 1, ground := Ground.phase }, { on := 2, ground := Ground.phase }, { on := 3, ground := Ground.phase }, { on := 4, ground := Ground.phase }, { on := 5, ground := Ground.phase }, { on := 6, ground := Ground.phase }, { on := 7, ground := Ground.phase }, { on := 8, ground := Ground.phase }, { on := 9, ground := Ground.phase }, { on := 10, ground := Ground.phase }, { on := 11, ground := Ground.phase }, { on := 12, ground := Ground.phase }, { on := 13, ground := Ground.phase }, { on := 14, ground := Ground.phase }], guard := none }) rfl (fun K hK => ?_) ?_
                          · go_simp
                            refine hK.out _ _ (⟨(cell_far hnb _).trans k0, (cell_far hnb _).trans k1, (cell_far hnb _).trans k2⟩) (fun hHeld => ?_)
                            clear hK K
                            try simp only [Act.put, List.setIfInBounds_toArray, List.set_cons_zero, List.set_cons_succ]
                            refine wpAnyH_done (by kernel_rfl) (NoPanic.normal ?_) _
                            go_wp2_with fail
                            go_roundw
                            case rel =>
                              refine ⟨k + 1, _, by omega, by go_num, Lib.hid ⟨cell_same x6, ?_, (cell_ne (by omega)).trans X06.out, by rw [World.frozen?_setCell]; exact xf6, bel_set HB6.out (Nat.le_refl _) _⟩⟩
                              rw [HP.out, List.length_append, bdc_app, bdc_one]
                              have h8 := HO6.out
                              simp only [reBd]
                              exact ownsRow_kept h8 (fun g hg => Below.heap_setCell w6 ⟨w2.heap.size, 1, none⟩ _ g (by have := (ownsRow_lt h8 hg).1; simp only; omega))
                            case measure => simp [intOf]; omega
                          exact AllReadyH.nil
                        exact AllReadyH.nil
                      exact AllReadyH.nil
                    refine AllReadyH.cons (o := { dst := some 71, op := Op.buildSlice 22 1 #[(0, Operand.tmp 70)], type := 22, pos := "difference.go:282", after := #[{ on := 12, ground := Ground.data }], guard := none }) rfl (fun K hK => ?_) ?_
                    · go_simp
                      refine hK.out _ _ (⟨cell_stays (bel_one _ _) y0, cell_stays (bel_one _ _) y1, cell_stays (bel_one _ _) y2⟩) (fun hHeld => ?_)
                      clear hK K
                      try simp only [Act.put, List.setIfInBounds_toArray, List.set_cons_zero, List.set_cons_succ]
                      refine wpAnyH_ready (rs := [1]) (by kernel_rfl) (by simp) ?_
                      refine AllReadyH.cons (o := { dst := some 59, op := Op.load 22 (Operand.tmp 58), type := 22, pos := "difference.go:282", after := #[{ on := 0, ground := Ground.data }], guard := none }) rfl (fun K hK => ?_) ?_
                      · go_simp
                        refine hK.out _ _ (⟨cell_stays (bel_one _ _) y0, cell_stays (bel_one _ _) y1, cell_stays (bel_one _ _) y2⟩) (fun hHeld => ?_)
                        clear hK K
                        try simp only [Act.put, List.setIfInBounds_toArray, List.set_cons_zero, List.set_cons_succ]
                        refine wpAnyH_ready (rs := [14]) (by kernel_rfl) (by simp) ?_
                        refine AllReadyH.cons (o := { dst := some 72, op := Op.call { callee := Callee.builtin Builtin.append, args := #[Operand.tmp 59, Operand.tmp 71], argTypes := #[22, 22] }, type := 22, pos := "difference.go:282", after := #[{ on := 1, ground := Ground.data }, { on := 13, ground := Ground.data }, { on := 9, ground := Ground.chain }], guard := none }) rfl (fun K hK => ?_) ?_
                        · (refine step_app _ rfl (.tmp 59) (.tmp 71) 22 rfl (w2.heap.size + 1) 56 j0 _ 3 24 Try.underlying22 hj0 hy0 hy1 hy2 rfl (by decide) (.slice Ao (projL u (l.take k)).length co) (projL u (l.take k)).length (bdc (projL u (l.take k))) rfl (ownsRow_below HOW.out (bel_one _ _).drew) (some ⟨W1.heap.size, 0, none⟩) 1 1 [.int .i64 (renum u b.x), .int .i64 (renum u b.y), .int .i64 b.most] rfl (src_new' W1 [.int .i64 (renum u b.x), .int .i64 (renum u b.y), .int .i64 b.most] _ 1 3 _ rfl rfl (by simp [Value.oneCell'])) (by unfold maxLen; omega) (by omega) (by simp; omega) ?_; intro v6 w6 hown6 hg6 hloc6; have HO6 := Lib.hid hown6; have hbk : ∀ b', b' < W1.heap.size → b' < w2.heap.size + 1 ∨ b' = wr.heap.size → w6.heap[b']? = W1.heap[b']? := (fun b' h1 h2 => (hg6.block b' (by simp; omega) (fun e => by have h5 := ownsRow_lt HI.out.2.1 e.symm; omega)).trans (Below.heap_alloc W1 _ b' h1)); have k0 : w6.cell? ⟨wr.heap.size, 0, none⟩ = some (.int .i64 b.x) := (World.cell?_of_block (a := ⟨wr.heap.size, 0, none⟩) (hbk wr.heap.size hWs (.inr rfl))).trans y0; have k1 : w6.cell? ⟨wr.heap.size, 1, none⟩ = some (.int .i64 b.y) := (World.cell?_of_block (a := ⟨wr.heap.size, 1, none⟩) (hbk wr.heap.size hWs (.inr rfl))).trans y1; have k2 : w6.cell? ⟨wr.heap.size, 2, none⟩ = some (.int .i64 b.most) := (World.cell?_of_block (a := ⟨wr.heap.size, 2, none⟩) (hbk wr.heap.size hWs (.inr rfl))).trans y2; have hbk2 := hbk w2.heap.size (by omega) (.inl (by omega)); have x6 : w6.cell? ⟨w2.heap.size, 1, none⟩ = some (.slice Ao (projL u (l.take k)).length co) := (World.cell?_of_block (a := ⟨w2.heap.size, 1, none⟩) hbk2).trans x1'; have xf6 : w6.frozen? ⟨w2.heap.size, 1, none⟩ = false := (World.frozen?_of_block (a := ⟨w2.heap.size, 1, none⟩) hbk2).trans xf; have X06 : Hid (w6.cell? ⟨w2.heap.size, 0, none⟩ = some (.int .i64 ((N : Int) - 1))) := Lib.hid ((World.cell?_of_block (a := ⟨w2.heap.size, 0, none⟩) hbk2).trans (cell_stays hb1 HI.out.2.2.1)); have HB6 : Hid (Below w2.heap.size w2 w6) := Lib.hid (((bel_al (bel_tr HI.out.2.2.2.2 hb1) _).drew).trans (grown_below hg6 (by simp; omega) (fun g h => by have := (ownsRow_lt HI.out.2.1 h).1; omega))); obtain ⟨A6, c6, rfl⟩ := slice_own hown6; clear hown6 hg6 hloc6 hbk hbk2)
                          refine hK.out _ _ (⟨k0, k1, k2⟩) (fun hHeld => ?_)
                          clear hK K
                          try simp only [Act.put, List.setIfInBounds_toArray, List.set_cons_zero, List.set_cons_succ]
                          refine wpAnyH_take (i := 15) (oi := { dst := some 73, op := Op.fieldAddr 24 (Operand.tmp 10) 1, type := 0, pos := "difference.go:282", after := #[{ on := 0, ground := Ground.phase }, { on := 1, ground := Ground.phase }, { on := 2, ground := Ground.phase }, { on := 3, ground := Ground.phase }, { on := 4, ground := Ground.phase }, { on := 5, ground := Ground.phase }, { on := 6, ground := Ground.phase }, { on := 7, ground := Ground.phase }, { on := 8, ground := Ground.phase }, { on := 9, ground := Ground.phase }, { on := 10, ground := Ground.phase }, { on := 11, ground := Ground.phase }, { on := 12, ground := Ground.phase }, { on := 13, ground := Ground.phase }, { on := 14, ground := Ground.phase }], guard := none }) (v := ?_) rfl (by kernel_rfl) (by kernel_rfl) (by kernel_rfl) (fun _ _ _ h => h) (Or.inl ⟨by rfl, ?_⟩) (by assumption) ?_
                          rotate_left 1
                          · (intro wS hSw; (try dsimp only at hSw); go_simp <;> with_reducible rfl)
                          try simp only [Act.put, List.setIfInBounds_toArray, List.set_cons_zero, List.set_cons_succ]
                          refine wpAnyH_ready (rs := [16]) (by kernel_rfl) (by simp) ?_
                          refine AllReadyH.cons (o := { dst := none, op := Op.store 22 (Operand.tmp 73) (Operand.tmp 72), type := 0, pos := "difference.go:282", after := #[{ on := 15, ground := Ground.data }, { on := 14, ground := Ground.data }, { on := 14, ground := Ground.chain }, { on := 0, ground := Ground.phase }, { on := 1, ground := Ground.phase }, { on := 2, ground := Ground.phase }, { on := 3, ground := Ground.phase }, { on := 4, ground := Ground.phase }, { on := 5, ground := Ground.phase }, { on := 6, ground := Ground.phase }, { on := 7, ground := Ground.phase }, { on := 8, ground := Ground.phase }, { on := 9, ground := Ground.phase }, { on := 10, ground := Ground.phase }, { on := 11, ground := Ground.phase }, { on := 12, ground := Ground.phase }, { on := 13, ground := Ground.phase }, { on := 14, ground := Ground.phase }], guard := none }) rfl (fun K hK => ?_) ?_
                          · go_simp
                            refine hK.out _ _ (⟨(cell_far hnb _).trans k0, (cell_far hnb _).trans k1, (cell_far hnb _).trans k2⟩) (fun hHeld => ?_)
                            clear hK K
                            try simp only [Act.put, List.setIfInBounds_toArray, List.set_cons_zero, List.set_cons_succ]
                            refine wpAnyH_done (by kernel_rfl) (NoPanic.normal ?_) _
                            go_wp2_with fail
                            go_roundw
                            case rel =>
                              refine ⟨k + 1, _, by omega, by go_num, Lib.hid ⟨cell_same x6, ?_, (cell_ne (by omega)).trans X06.out, by rw [World.frozen?_setCell]; exact xf6, bel_set HB6.out (Nat.le_refl _) _⟩⟩
                              rw [HP.out, List.length_append, bdc_app, bdc_one]
                              have h8 := HO6.out
                              simp only [reBd]
                              exact ownsRow_kept h8 (fun g hg => Below.heap_setCell w6 ⟨w2.heap.size, 1, none⟩ _ g (by have := (ownsRow_lt h8 hg).1; simp only; omega))
                            case measure => simp [intOf]; omega
                          exact AllReadyH.nil
                        exact AllReadyH.nil
                      exact AllReadyH.nil
                    exact AllReadyH.nil
                  exact AllReadyH.nil
                exact AllReadyH.nil
          · obtain rfl : k = l.length := by omega
            have x0 := HI.out.2.2.1
            have hrk := arr_keep hr (by omega : w.heap.size + 1 + 1 < w2.heap.size) HI.out.2.2.2.2
            have hrfk : ∀ j, wr.frozen? ⟨w.heap.size + 1 + 1, j, none⟩ = false := fun j => (World.frozen?_of_block (a := ⟨w.heap.size + 1 + 1, j, none⟩) (HI.out.2.2.2.2.block _ (by simp only; omega))).trans (hrf2 j)
            have hne : w.heap.size + 1 + 1 ≠ w2.heap.size := by omega
            have HOW := Lib.hid HI.out.2.1
            clear hr hrf2
            go_wp2_with fail
            rw [HR.out]
            refine bodyPost_ret (v := .tuple #[.agg #[.int .i64 ((N : Int) - 1), .slice Ao (projL u (l.take l.length)).length co], .int .i64 0]) (by simp [results, Try.results20, go_sem, hrk]) rfl ?_
            have hbel : Below w2.heap.size w2 wr := HI.out.2.2.2.2
            refine ⟨_, rfl, ?_, bel_set (bel_set (bel_tr HB.out hbel) (by omega) _) (by omega) _⟩
            have h5 : ∀ (W : World), (∀ g, w2.heap.size + 1 ≤ g → g < wr.heap.size → W.heap[g]? = wr.heap[g]?) → IsBds W (.slice Ao (projL u (l.take l.length)).length co) (projL u l) := by
              intro W hW
              have h6 := ownsRow_kept (w' := W) HOW.out (fun g hg => hW g (ownsRow_lt HOW.out hg).1 (ownsRow_lt HOW.out hg).2)
              have h7 := sl_of_means (bds_mean W (projL u (l.take l.length))) (Below.refl _ _) h6
              rw [List.take_length] at h7 ⊢
              exact h7
            refine h5 _ (fun g h1 h2 => ?_)
            rw [Below.heap_setCell _ _ _ _ (by simp only; omega), Below.heap_setCell _ _ _ _ (by simp only; omega)]
      · have g1 : (er != 0) = true := by simpa using her
        have HR : Hid (projectR N bs u = (0, [], er)) := Lib.hid (by
          unfold projectR
          rw [if_pos HZ.out, if_neg HU.out, Int.toNat_natCast, HCL.out]
          simp only
          rw [if_neg her])
        clear her
        go_enter Try.func20, Try.ntmps20
        go_wp2_with (first
          | (go_at_call 32; refine (zcheck_any _ bs _ _ (HL.out.stays bdAt_stays (bel_al (bel_al (bel_one _ _) _) _))).mono ?_; rw [HE0.out]; rintro e w1 ⟨rfl, hb1⟩; obtain ⟨hz, hun, hr, hrf, hbw, hsz⟩ := three_cells hb1; clear hb1)
          | (go_at_call 45; refine (closed_any N ⟨by omega, by omega⟩ bs _ _ (HL.out.stays bdAt_stays hbw) HG.out hlen).mono ?_; rw [HCL.out]; rintro e w2 ⟨v2, rfl, -, hb2⟩; replace hr := arr_keep hr (by omega : w.heap.size + 1 + 1 < w1.heap.size) hb2; have hrf2 : ∀ j, w2.frozen? ⟨w.heap.size + 1 + 1, j, none⟩ = false := (fun j => (World.frozen?_of_block (a := ⟨w.heap.size + 1 + 1, j, none⟩) (hb2.block _ (by simp only; omega))).trans (hrf j)); have hs2 := hb2.size; replace hbw := bel_tr hbw hb2; clear hrf))
        rw [HR.out]
        exact bodyPost_ret (v := .tuple #[.agg #[.int .i64 0, .slice none 0 0], .int .i64 er]) (by simp [results, Try.results20, go_sem, hr]) rfl ⟨_, rfl, Sl.nil _ _ _ _ _ (Nat.zero_le _), bel_set (bel_set hbw (by omega) _) (by omega) _⟩
  · have g0 : (e0 != 0) = true := by simpa using h0
    have HR : Hid (projectR n bs u = (0, [], e0)) := Lib.hid (by unfold projectR; rw [he0, if_neg h0])
    clear he0 h0
    go_enter Try.func20, Try.ntmps20
    go_wp2_with (go_at_call 32; refine (zcheck_any _ bs _ _ (HL.out.stays bdAt_stays (bel_al (bel_al (bel_one _ _) _) _))).mono ?_; rw [HE0.out]; rintro e w1 ⟨rfl, hb1⟩; obtain ⟨hz, hun, hr, hrf, hbw, hsz⟩ := three_cells hb1; clear hb1)
    rw [HR.out]
    exact bodyPost_ret (v := .tuple #[.agg #[.int .i64 0, .slice none 0 0], .int .i64 e0]) (by simp [results, Try.results20, go_sem, hr]) rfl ⟨_, rfl, Sl.nil _ _ _ _ _ (Nat.zero_le _), bel_set (bel_set hbw (by omega) _) (by omega) _⟩
end Go.Proofs.Ytgecbjjcjemcgaa
