/- The tightest bounds between different unknowns, as the program lists them. -/
import Derived.Test.YtgecbjjcjemcgaaDtight
namespace Go.Proofs.Ytgecbjjcjemcgaa
open Go.RowKit

/-- the entries of row x, the first y columns -/
def rowE (T : Tab) (x : Nat) : Nat → List Bd
  | 0 => []
  | y + 1 => rowE T x y ++ (if x = y then [] else match T x y with
    | some c => [⟨x, y, c⟩]
    | none => [])
def entE (T : Tab) (n : Nat) : Nat → List Bd
  | 0 => []
  | x + 1 => entE T n x ++ rowE T x n
theorem rowE_len (T : Tab) (x : Nat) : ∀ y, (rowE T x y).length ≤ y := by
  intro y
  induction y with
  | zero => simp [rowE]
  | succ y ih =>
    simp only [rowE, List.length_append]
    split
    · simp; omega
    · split <;> simp <;> omega
theorem entE_len (T : Tab) (n : Nat) : ∀ x, (entE T n x).length ≤ x * n := by
  intro x
  induction x with
  | zero => simp [entE]
  | succ x ih =>
    have := rowE_len T x n
    simp only [entE, List.length_append, Nat.succ_mul]
    omega
theorem rowE_congr {T U : Tab} {x : Nat} : ∀ {y}, (∀ v, v < y → T x v = U x v) → rowE T x y = rowE U x y := by
  intro y
  induction y with
  | zero => intro _; rfl
  | succ y ih =>
    intro h
    simp only [rowE]
    rw [ih (fun v hv => h v (by omega)), h y (by omega)]
theorem entE_congr {T U : Tab} {n : Nat} : ∀ {x}, x ≤ n → (∀ u v, u < n → v < n → T u v = U u v) → entE T n x = entE U n x := by
  intro x
  induction x with
  | zero => intro _ _; rfl
  | succ x ih =>
    intro hx h
    simp only [entE]
    rw [ih (by omega) h, rowE_congr (fun v hv => h x v (by omega) hv)]

/-- the bounds and the error of closing -/
def closedR (n : Nat) (bs : List Bd) : List Bd × Int :=
  if feas n (bs.map ed) = true then
    (if 256 < ((entE (tight n (bs.map ed)) n n).length : Int) then ([], 5) else if bdsErr n (entE (tight n (bs.map ed)) n n) = 0 then (entE (tight n (bs.map ed)) n n, 0) else ([], bdsErr n (entE (tight n (bs.map ed)) n n)))
  else ([], 24)
theorem closedR_no {n : Nat} {bs : List Bd} (h : feas n (bs.map ed) = false) : closedR n bs = ([], 24) := by unfold closedR; rw [h]; rfl
theorem closedR_yes {n : Nat} {bs : List Bd} (h : feas n (bs.map ed) = true) (hn : n ≤ 6) : closedR n bs = if bdsErr n (entE (tight n (bs.map ed)) n n) = 0 then (entE (tight n (bs.map ed)) n n, 0) else ([], bdsErr n (entE (tight n (bs.map ed)) n n)) := by
  unfold closedR
  have h1 := entE_len (tight n (bs.map ed)) n n
  have h2 : n * n ≤ 6 * 6 := Nat.mul_le_mul hn hn
  rw [if_pos h, if_neg (by omega)]

def bdc (l : List Bd) : List Value := l.flatMap fun b => [.int .i64 b.x, .int .i64 b.y, .int .i64 b.most]
theorem bdc_app (a b : List Bd) : bdc (a ++ b) = bdc a ++ bdc b := by simp [bdc]
theorem bdc_one (b : Bd) : bdc [b] = [.int .i64 b.x, .int .i64 b.y, .int .i64 b.most] := by simp [bdc]
theorem bd_one_mean (w : World) (b : Bd) : Means BdAt 3 w [.int .i64 b.x, .int .i64 b.y, .int .i64 b.most] [b] := by
  refine ⟨rfl, by simp [Value.oneCell'], ?_⟩
  intro W g o _ hc k y hk
  cases k with
  | zero =>
    simp at hk; subst hk
    exact ⟨by simpa using hc 0 _ rfl, by simpa using hc 1 _ rfl, by simpa using hc 2 _ rfl⟩
  | succ k => simp at hk
theorem bds_mean (w : World) : ∀ l : List Bd, Means BdAt 3 w (bdc l) l := by
  intro l
  induction l with
  | nil => exact Means.nil
  | cons b l ih =>
    have h := (bd_one_mean w b).app ih
    have e : bdc (b :: l) = [.int .i64 b.x, .int .i64 b.y, .int .i64 b.most] ++ bdc l := by simp [bdc]
    rw [e]
    exact h
theorem info_bd : (Try.prog.info? 56).map (fun i => (i.zero, i.size, i.bytes)) = some (some (.agg #[.int .i64 0, .int .i64 0, .int .i64 0]), 3, 24) := by kernel_rfl

/-- bounds and an error are handed back -/
def BdsRet (w : World) (r : List Bd × Int) (e : Ending) (W : World) : Prop := ∃ v, e = .returned (.tuple #[v, .int .i64 r.2]) ∧ IsBds W v r.1 ∧ Below w.heap.size w W

set_option maxRecDepth 100000 in
set_option maxHeartbeats 4000000 in
theorem closed_any (n : Nat) (h16 : 1 ≤ n ∧ n ≤ 6) (bs : List Bd) (v : Value) (w : World) (hl : IsBds w v bs) (hg : good n bs) (hlen : bs.length ≤ 256) :
    Calls Try.prog 45 #[zoneV n v] w (BdsRet w (closedR n bs)) := by
  unfold zoneV
  have HL := Lib.hid hl
  have HG := Lib.hid hg
  obtain ⟨A, c, rfl, -, -, -⟩ := hl
  have hs0 := fun W (a : Option Addr) l c => run_neq_slice_nil (P := Try.prog) W 27 3 a l c Try.underlying27
  clear hg
  go_enter Try.func45, Try.ntmps45
  go_wp2_with fail
  refine (solve_any n h16 bs _ _ (HL.out.stays bdAt_stays (bel_one _ _)) HG.out hlen).mono ?_
  rintro e w2 ⟨hb2, hcase⟩
  obtain ⟨hz, -⟩ := new_cells hb2
  have HB2 := Lib.hid (bel_tr (bel_one _ _) hb2)
  have HBZ := Lib.hid hb2
  clear hb2
  rcases hcase with ⟨hf, g, rfl, -, -⟩ | ⟨hf, L, A', c', rfl, -, -, -⟩
  · have HF := Lib.hid hf
    clear hf
    go_wp2_with fail
    refine (tightest_any n h16 bs _ _ (HL.out.stays bdAt_stays HB2.out) HG.out hlen HF.out).mono ?_
    rintro e w3 ⟨gt, rows, p, rfl, ht⟩
    have HT := Lib.hid ht
    have HB3 := Lib.hid (bel_tr HB2.out ht.bel)
    obtain ⟨hz3, -⟩ := new_cells (bel_tr HBZ.out ht.bel)
    have z0 : w3.cell? ⟨w.heap.size, 0, none⟩ = some (.int .i64 (n : Int)) := hz3 0
    obtain ⟨T, hT⟩ : ∃ T, T = fw n (bs.map ed) := ⟨_, rfl⟩
    rw [← hT] at HT
    have HEE : Hid (entE T n n = entE (tight n (bs.map ed)) n n) := Lib.hid (by
      rw [hT]
      exact entE_congr (Nat.le_refl _) (fun u v hu hv => fw_tight (good_ok HG.out) (feas_sat HF.out) hu hv))
    have HCR := Lib.hid (closedR_yes HF.out h16.2)
    rw [← HEE.out] at HCR
    obtain ⟨hn1, hn6⟩ := h16
    obtain ⟨j0, hj0, hy0, hy1, hy2⟩ := info_parts info_bd
    clear ht hT hz hz3
    go_wp2_with fail
    go_loopw [6, 24] (fun v i wr => ∃ x : Nat, x ≤ n ∧ i = .int .i64 x ∧ Hid (wr.ownsRow w3.heap.size 56 3 v (entE T n x).length (bdc (entE T n x)) ∧ Below w3.heap.size w3 wr)) (fun _ i _ => n - (intOf i).toNat)
    case atStart => exact ⟨0, Nat.zero_le _, rfl, ⟨rfl, .inl ⟨rfl, rfl⟩⟩, Below.refl _ _⟩
    case round =>
      obtain ⟨x, hx, rfl, HI⟩ := hrel
      by_cases hlx : x < n
      · have hlx' : (x : Int) < (n : Int) := by omega
        have q0 := cell_stays HI.out.2 (HT.out.outer x hlx)
        go_wp2_with fail
        go_loopw [6, 31] (fun v i wr => ∃ y : Nat, y ≤ n ∧ i = .int .i64 y ∧ Hid (wr.ownsRow w3.heap.size 56 3 v (entE T n x ++ rowE T x y).length (bdc (entE T n x ++ rowE T x y)) ∧ Below w3.heap.size w3 wr)) (fun _ i _ => n - (intOf i).toNat)
        case atStart => exact ⟨0, Nat.zero_le _, rfl, by simp only [rowE, List.append_nil]; exact HI⟩
        case round =>
          obtain ⟨y, hy, rfl, HJ⟩ := hrel
          by_cases hly : y < n
          · have hly' : (y : Int) < (n : Int) := by omega
            have q1 := cell_stays HJ.out.2 (HT.out.row x y hlx hly)
            have hll : (entE T n x ++ rowE T x y).length ≤ 64 := by
              have h1 := entE_len T n x
              have h2 := rowE_len T x y
              have h3 : x * n ≤ 6 * 6 := Nat.mul_le_mul (by omega) hn6
              rw [List.length_append]; omega
            by_cases hxy : x = y
            · have g1 : ((x : Int) != (y : Int)) = false := by rw [hxy]; simp
              have HR : Hid (rowE T x (y + 1) = rowE T x y) := Lib.hid (by simp only [rowE]; rw [if_pos hxy, List.append_nil])
              obtain ⟨o, ho⟩ : ∃ o, o = p x y := ⟨_, rfl⟩
              rw [← ho] at q1
              clear ho hxy
              unfold ptr at q1
              go_wp2_with fail
              go_roundw
              case rel => exact ⟨y + 1, by omega, by go_num, by rw [HR.out]; exact HJ⟩
              case measure => simp [intOf]; omega
            · have g1 : ((x : Int) != (y : Int)) = true := by rw [bne_iff_ne]; omega
              obtain ⟨o, ho⟩ : ∃ o, o = p x y := ⟨_, rfl⟩
              rw [← ho] at q1
              have HO := Lib.hid ho
              have HXY := Lib.hid hxy
              clear ho hxy
              cases o with
              | none =>
                have HR : Hid (rowE T x (y + 1) = rowE T x y) := Lib.hid (by simp only [rowE]; rw [if_neg HXY.out, HT.out.no x y hlx hly HO.out.symm, List.append_nil])
                simp only [ptr, Option.map_none] at q1
                go_wp2_with fail
                go_roundw
                case rel => exact ⟨y + 1, by omega, by go_num, by rw [HR.out]; exact HJ⟩
                case measure => simp [intOf]; omega
              | some q =>
                obtain ⟨cq, tq, kq, -, -⟩ := HT.out.yes x y q hlx hly HO.out.symm
                have HR : Hid (rowE T x (y + 1) = rowE T x y ++ [⟨x, y, cq⟩]) := Lib.hid (by simp only [rowE]; rw [if_neg HXY.out, tq])
                simp only [ptr, Option.map_some] at q1
                replace kq := cell_stays HJ.out.2 kq
                obtain ⟨A4, c4, hA4⟩ := slice_own HJ.out.1
                subst hA4
                clear tq
                go_wp2_with (at_builtin; refine wpList_app _ rfl (.tmp 43) (.tmp 50) 22 rfl w3.heap.size 56 j0 _ 3 24 Try.underlying22 hj0 hy0 hy1 hy2 rfl (by decide) (.slice A4 (entE T n x ++ rowE T x y).length c4) (entE T n x ++ rowE T x y).length (bdc (entE T n x ++ rowE T x y)) rfl (ownsRow_below HJ.out.1 (bel_one _ _)) (some ⟨wr.heap.size, 0, none⟩) 1 1 [.int .i64 (x : Int), .int .i64 (y : Int), .int .i64 cq] rfl (src_new wr [.int .i64 (x : Int), .int .i64 (y : Int), .int .i64 cq] _ 1 3 rfl (by simp [Value.oneCell'])) (by unfold maxLen; omega) (by omega) (by have := HJ.out.2.size; simp; omega) ?_; intro v6 w6 hown6 hg6 hloc6; have HO6 := Lib.hid hown6; have HB6 : Hid (Below w3.heap.size w3 w6) := Lib.hid ((bel_al HJ.out.2 _).trans (grown_below hg6 (by have := HJ.out.2.size; simp; omega) (fun g h => (ownsRow_lt HJ.out.1 h).1))); clear hown6 hg6 hloc6)
                go_roundw
                case rel => exact ⟨y + 1, by omega, by go_num, by rw [HR.out, ← List.append_assoc]; exact Lib.hid ⟨by rw [List.length_append, bdc_app, bdc_one]; exact HO6.out, HB6.out⟩⟩
                case measure => simp [intOf]; omega
          · obtain rfl : y = n := by omega
            go_wp2_with fail
            go_roundw
            case rel => exact ⟨x + 1, by omega, by go_num, HJ⟩
            case measure => simp [intOf]; omega
      · obtain rfl : x = n := by omega
        obtain ⟨l, hl⟩ : ∃ l, l = entE T x x := ⟨_, rfl⟩
        rw [← hl] at HI HCR
        have hll : l.length ≤ 36 := by
          have h1 := entE_len T x x
          have h3 : x * x ≤ 6 * 6 := Nat.mul_le_mul hn6 hn6
          rw [hl]; omega
        obtain ⟨A5, c5, hA5⟩ := slice_own HI.out.1
        subst hA5
        have hbds := sl_of_means (bds_mean w3 l) HI.out.2 HI.out.1
        have HBD := Lib.hid hbds
        obtain ⟨_, _, hv, -, -, hat⟩ := hbds
        injection hv with e1 _ e3
        subst e1 e3
        have HAT := Lib.hid hat
        have HIB := Lib.hid HI.out.2
        clear hat hl HI HEE HT
        have h256 : ¬ (256 : Int) < (l.length : Int) := by omega
        go_wp2_with fail
        refine wp_gen ?_
        intro W5 hW5
        subst hW5
        go_loopw [59] (fun i wr => ∃ k : Nat, k ≤ l.length ∧ i = .int .i64 k ∧ Hid (bdsErr x (l.drop k) = bdsErr x l) ∧ Below W5.heap.size W5 wr) (fun i _ => l.length - (intOf i).toNat)
        case atStart => exact ⟨0, Nat.zero_le _, rfl, rfl, Below.refl _ _⟩
        case round =>
          obtain ⟨k, hk, rfl, hi, hb⟩ := hrel
          by_cases hlt : k < l.length
          · have hlt' : (k : Int) < (l.length : Int) := by omega
            obtain ⟨b, o, rfl, c0, c1, c2⟩ := HAT.out k l[k] (List.getElem?_eq_getElem hlt)
            replace c0 := cell_stays hb c0
            replace c1 := cell_stays hb c1
            replace c2 := cell_stays hb c2
            have x0 := cell_stays (bel_tr HIB.out hb) z0
            have hzl := World.block_lt_of_cell? wr _ x0
            have hbl := World.block_lt_of_cell? wr _ c0
            simp only at hzl hbl
            obtain ⟨en, hen⟩ : ∃ e, boundErr x l[k] = e := ⟨_, rfl⟩
            have HEN := Lib.hid hen
            clear hen
            by_cases h0 : en = 0
            · have g0 : (en != 0) = false := by simpa using h0
              have HH : Hid (boundErr x l[k] = 0) := Lib.hid (HEN.out.trans h0)
              clear h0
              go_wp2_with (go_at_call 60; refine (check_any x l[k] _).mono ?_; rw [HEN.out]; rintro e w' ⟨rfl, hb5⟩)
              go_roundw
              case rel => exact ⟨k + 1, by omega, by go_num, bdsErr_go x l k _ (List.getElem?_eq_getElem hlt) HH.out hi.out, bel_tr hb (bel_tr (bel_one _ _) hb5)⟩
              case measure => simp [intOf]; omega
            · have g0 : (en != 0) = true := by simpa using h0
              have HST := Lib.hid (bdsErr_stop x l k _ (List.getElem?_eq_getElem hlt) (by rw [HEN.out]; exact h0) hi.out)
              have HN0 := Lib.hid h0
              clear h0
              go_wp2_with (go_at_call 60; refine (check_any x l[k] _).mono ?_; rw [HEN.out]; rintro e w' ⟨rfl, hb5⟩)
              go_ret2
              rw [HCR.out, ← HST.out, HEN.out, if_neg HN0.out]
              exact ⟨_, rfl, Sl.nil _ _ _ _ _ (Nat.zero_le _), bel_tr (bel_tr (bel_tr HB3.out HIB.out) hb) (bel_tr (bel_one _ _) hb5)⟩
          · have HEND := Lib.hid (bdsErr_end x l k (by omega) hi.out)
            go_wp2_with fail
            go_ret2
            rw [HCR.out, ← HEND.out, if_pos rfl]
            exact ⟨_, rfl, HBD.out.stays bdAt_stays hb, bel_tr (bel_tr HB3.out HIB.out) hb⟩
  · have HCR := Lib.hid (closedR_no hf)
    clear hf
    go_wp2_with fail
    go_ret2
    rw [HCR.out]
    exact ⟨_, rfl, Sl.nil _ _ _ _ _ (Nat.zero_le _), HB2.out⟩
end Go.Proofs.Ytgecbjjcjemcgaa
