/- ref05.Check. -/
import Derived.Test.YtclpglgigpjfoaaGreatDoorMstrc
namespace Go.Proofs.YtclpglgigpjfoaaGreatDoor
open Go.RowKit

theorem rRef_bel (s q y t : Int) (A : Option Addr) (n c : Nat) (w : World) : Calls Tryz.prog 37 #[.agg #[.int .i64 s, .int .i64 q, .int .i64 y, .int .i64 t, .slice A n c]] w fun e w' => e = .returned (.agg #[.int .i64 t, .int .i64 s, .int .i64 q]) ∧ Below w.heap.size w w' :=
  (rRef_raw s q y t A n c w).mono fun _ _ ⟨h1, h2⟩ => ⟨h1, h2.below⟩
def twinB (s1 q1 s2 q2 : Int) : Bool := decide (s1 = s2 ∧ q1 = q2)
theorem rtwin_raw (s1 q1 y1 t1 s2 q2 y2 t2 : Int) (A B : Option Addr) (n c m d : Nat) (w : World) : Calls Tryz.prog 91 #[.agg #[.int .i64 s1, .int .i64 q1, .int .i64 y1, .int .i64 t1, .slice A n c], .agg #[.int .i64 s2, .int .i64 q2, .int .i64 y2, .int .i64 t2, .slice B m d]] w fun e w' => e = .returned (.bool (twinB s1 q1 s2 q2)) ∧ Below w.heap.size w w' := by
  unfold twinB
  by_cases h1 : s1 = s2
  · subst h1
    by_cases h2 : q1 = q2
    · subst h2
      go_enter Tryz.func91, Tryz.ntmps91
      go_wp2
      go_ret
      exact ⟨by simp, (by repeat (first | exact Below.refl _ _ | assumption | refine Below.drew ?_ | refine bel_al ?_ _ | refine bel_set ?_ (by omega) _ | refine bel_tr ?_ (by assumption)))⟩
    · have h2' : (q1 == q2) = false := by simpa using h2
      go_enter Tryz.func91, Tryz.ntmps91
      go_wp2
      go_ret
      exact ⟨by simp [h2], (by repeat (first | exact Below.refl _ _ | assumption | refine Below.drew ?_ | refine bel_al ?_ _ | refine bel_set ?_ (by omega) _ | refine bel_tr ?_ (by assumption)))⟩
  · have h1' : (s1 == s2) = false := by simpa using h1
    go_enter Tryz.func91, Tryz.ntmps91
    go_wp2
    go_ret
    exact ⟨by simp [h1], (by repeat (first | exact Below.refl _ _ | assumption | refine Below.drew ?_ | refine bel_al ?_ _ | refine bel_set ?_ (by omega) _ | refine bel_tr ?_ (by assumption)))⟩
theorem any_take_next {l : List Evt} {j : Nat} {y x : Evt} (hy : l[j]? = some y) (h : (l.take j).any (twinE x) = false) (hn : twinB y.src y.sq x.src x.sq = false) : (l.take (j + 1)).any (twinE x) = false := by
  rw [take_snoc' hy, List.any_append, h, List.any_cons, List.any_nil]
  have : twinE x y = false := by
    unfold twinE; unfold twinB at hn
    rw [decide_eq_false_iff_not] at hn ⊢
    exact fun ⟨a, b⟩ => hn ⟨a.symm, b.symm⟩
  rw [this]; rfl
theorem any_take_hit {l : List Evt} {k j : Nat} {y x : Evt} (hy : l[j]? = some y) (hj : j < k) (hn : twinB y.src y.sq x.src x.sq = true) : (l.take k).any (twinE x) = true := by
  rw [List.any_eq_true]
  refine ⟨y, ?_, ?_⟩
  · rw [List.mem_iff_getElem?]
    exact ⟨j, by rw [List.getElem?_take_of_lt hj]; exact hy⟩
  · unfold twinE; unfold twinB at hn
    rw [decide_eq_true_eq] at hn ⊢
    exact ⟨hn.1.symm, hn.2.symm⟩

set_option maxRecDepth 100000 in
set_option maxHeartbeats 2000000 in
theorem rstrchk_any (l : List Evt) (v : Value) (w : World) (hl : IsEvts w v l) :
    Calls Tryz.prog 65 #[v] w fun e w' => e = .returned (.int .i64 (strErr l)) ∧ Below w.heap.size w w' := by
  unfold strErr
  obtain ⟨A, c, rfl, h1, h2, hat⟩ := hl
  have hn := len_i64 h1 h2
  have HL := Lib.hid hat
  clear hat h1 h2
  by_cases hm : 4096 < l.length
  · rw [if_pos hm]
    have hm' : (4096 : Int) < (l.length : Int) := by omega
    go_enter Tryz.func65, Tryz.ntmps65
    go_wp2_with fail
    go_ret
    exact ⟨rfl, (by repeat (first | exact Below.refl _ _ | assumption | refine Below.drew ?_ | refine bel_al ?_ _ | refine bel_set ?_ (by omega) _ | refine bel_tr ?_ (by assumption)))⟩
  rw [if_neg hm]
  have hm' : ¬ (4096 : Int) < (l.length : Int) := by omega
  clear hm
  go_enter Tryz.func65, Tryz.ntmps65
  go_wp2_with fail
  go_loopw [3] (fun i wr => ∃ k : Nat, k ≤ l.length ∧ i = .int .i64 k ∧ Hid (strFrom (l.take k) (l.drop k) = strFrom [] l) ∧ Below w.heap.size w wr) (fun i _ => l.length - (intOf i).toNat)
  case atStart => exact ⟨0, Nat.zero_le _, rfl, Lib.hid rfl, Below.refl _ _⟩
  case round =>
    obtain ⟨k, hk, rfl, hi, hb⟩ := hrel
    by_cases hlt : k < l.length
    · have hk' : (k : Int) < (l.length : Int) := by omega
      obtain ⟨b, o, rfl, vv, hvv, c0, c1, c2, c3, c4⟩ := HL.out k l[k] (List.getElem?_eq_getElem hlt)
      replace c0 := cell_stays hb c0
      replace c1 := cell_stays hb c1
      replace c2 := cell_stays hb c2
      replace c3 := cell_stays hb c3
      replace c4 := cell_stays hb c4
      obtain ⟨A1, cx, rfl, -⟩ := hvv
      have hget := Lib.hid (List.getElem?_eq_getElem hlt)
      obtain ⟨x, hx⟩ : ∃ x, x = l[k] := ⟨_, rfl⟩
      rw [← hx] at hget c0 c1 c2 c3 c4
      clear hx
      have HPL : ∀ W, Calls Tryz.prog 82 #[.agg #[.int .i64 x.src, .int .i64 x.sq, .int .i64 x.ty, .int .i64 x.tm, .slice A1 x.vals.length cx]] W fun e w' => e = .returned (.bool (placedE x)) ∧ Gr W w' := fun W => rplacedV_any x A1 _ cx W _ rfl
      by_cases hp : placedE x = false
      · have HP := Lib.hid hp
        rw [hp] at HPL
        have HPL := Lib.hid HPL
        clear hp
        go_wp2_with (go_at_call 82; refine (HPL.out _).mono ?_; rintro e w3 ⟨rfl, hg3⟩)
        go_ret
        exact ⟨ret_i (str_stop hget.out hi.out (evE_2 HP.out) (by decide)), bel_tr hb hg3.below⟩
      rw [Bool.not_eq_false] at hp
      rw [hp] at HPL
      have HPL := Lib.hid HPL
      have HP := Lib.hid hp
      clear hp
      go_wp2_with fail
      refine (HPL.out _).mono ?_
      rintro e w4 ⟨rfl, hg4⟩
      replace hg4 := hg4.below
      have HB4 := Lib.hid (bel_tr hb hg4)
      replace c0 := cell_stays hg4 c0
      replace c1 := cell_stays hg4 c1
      replace c2 := cell_stays hg4 c2
      replace c3 := cell_stays hg4 c3
      replace c4 := cell_stays hg4 c4
      clear hg4
      by_cases hk0 : k = 0
      · have HLT : Hid (lateE (l.take k) x = false) := Lib.hid (late_first hk0)
        have hkz : (l.take k).any (twinE x) = false := by rw [hk0]; rfl
        have HKZ := Lib.hid hkz
        have d1 : decide (0 < k) = false := by simp [hk0]
        have d2 : decide ((0 : Int) < (k : Int)) = false := by simp [hk0]
        clear hkz hk0
        go_wp2_with fail
        refine wp_region_F (fun W => W.cell? ⟨b, o + k * 5, none⟩ = some (.int .i64 x.src) ∧ W.cell? ⟨b, o + k * 5 + 1, none⟩ = some (.int .i64 x.sq) ∧ W.cell? ⟨b, o + k * 5 + 2, none⟩ = some (.int .i64 x.ty) ∧ W.cell? ⟨b, o + k * 5 + 3, none⟩ = some (.int .i64 x.tm) ∧ W.cell? ⟨b, o + k * 5 + 4, none⟩ = some (.slice A1 x.vals.length cx)) (by repeat (first | exact grows_cell _ _ _ | exact grows_true | refine grows_and ?_ ?_)) (by kernel_rfl) (by kernel_rfl) ?hF ?_; (case hF => (first | exact ⟨‹_›, ‹_›⟩ | (go_simp; done) | (simp [*]; done) | (repeat' (first | (refine And.intro ?_ ?_) | (go_simp; done) | exact cell_stays (bel_al (Below.refl _ _) _) (by assumption) | assumption)))); intro hne hxx; have hG : Hid (Grows (fun W => W.cell? ⟨b, o + k * 5, none⟩ = some (.int .i64 x.src) ∧ W.cell? ⟨b, o + k * 5 + 1, none⟩ = some (.int .i64 x.sq) ∧ W.cell? ⟨b, o + k * 5 + 2, none⟩ = some (.int .i64 x.ty) ∧ W.cell? ⟨b, o + k * 5 + 3, none⟩ = some (.int .i64 x.tm) ∧ W.cell? ⟨b, o + k * 5 + 4, none⟩ = some (.slice A1 x.vals.length cx))) := (by repeat (first | exact grows_cell _ _ _ | exact grows_true | refine grows_and ?_ ?_)); (repeat (go_big_quiet_step (fail))); clear hG hxx hne; refine wpQuiet_nil ?_; rintro wq ⟨⟨w', hb', hF'⟩, rfl⟩
        go_wp2_with fail
        refine wp_gen fun wz ez => ?_
        obtain rfl : wq = wz := ez.symm
        clear ez
        go_loopw [4] (fun i wr => i = .int .i64 0 ∧ wr = wq) (fun i _ => 0)
        case atStart => exact ⟨rfl, rfl⟩
        case round =>
          obtain ⟨rfl, rfl⟩ := hrel
          go_wp2_with fail
          go_roundw
          case rel => exact ⟨k + 1, by omega, by go_num, Lib.hid (str_go hget.out hi.out (evE_0 HP.out HLT.out HKZ.out)), bel_tr HB4.out hb'⟩
          case measure => simp [intOf]; omega
      · have hk1 : (0 : Int) ≤ (k : Int) - 1 := by omega
        have hk2 : (k : Int) - 1 < (l.length : Int) := by omega
        have d1 : decide (0 < k) = true := by simp; omega
        have d2 : decide ((0 : Int) < (k : Int)) = true := by simp; omega
        have HK := Lib.hid hk0
        clear hk0
        obtain ⟨_, _, hbo, vp, hvp, p0, p1, p2, p3, p4⟩ := HL.out (k - 1) l[k - 1] (List.getElem?_eq_getElem (by omega))
        simp only [Option.some.injEq, Addr.mk.injEq, and_true] at hbo
        obtain ⟨rfl, rfl⟩ := hbo
        obtain ⟨A2, cp, rfl, -⟩ := hvp
        have hgetp := Lib.hid (List.getElem?_eq_getElem (l := l) (i := k - 1) (by omega))
        obtain ⟨p, hp⟩ : ∃ p, p = l[k - 1] := ⟨_, rfl⟩
        rw [← hp] at p0 p1 p2 p3 p4 hgetp
        clear hp
        obtain ⟨r, hr⟩ : ∃ r, refsC (eRef p) (eRef x) = r := ⟨_, rfl⟩
        have HR := Lib.hid hr
        have HRR : Hid (∀ W, Calls Tryz.prog 36 #[.agg #[.int .i64 p.tm, .int .i64 p.src, .int .i64 p.sq], .agg #[.int .i64 x.tm, .int .i64 x.src, .int .i64 x.sq]] W fun e w' => e = .returned (.int .i64 r) ∧ Below W.heap.size W w') := Lib.hid fun W => (rrefs_bnd (eRef p) (eRef x) W).mono (fun e w' ⟨h1, h2⟩ => ⟨h1.trans (by rw [hr]), h2.below⟩)
        clear hr
        replace p0 := cell_stays HB4.out p0
        replace p1 := cell_stays HB4.out p1
        replace p2 := cell_stays HB4.out p2
        replace p3 := cell_stays HB4.out p3
        replace p4 := cell_stays HB4.out p4
        go_wp2_with fail
        refine wp_region_F (fun W => W.cell? ⟨b, o + k * 5, none⟩ = some (.int .i64 x.src) ∧ W.cell? ⟨b, o + k * 5 + 1, none⟩ = some (.int .i64 x.sq) ∧ W.cell? ⟨b, o + k * 5 + 2, none⟩ = some (.int .i64 x.ty) ∧ W.cell? ⟨b, o + k * 5 + 3, none⟩ = some (.int .i64 x.tm) ∧ W.cell? ⟨b, o + k * 5 + 4, none⟩ = some (.slice A1 x.vals.length cx) ∧ W.cell? ⟨b, o + (k - 1) * 5, none⟩ = some (.int .i64 p.src) ∧ W.cell? ⟨b, o + (k - 1) * 5 + 1, none⟩ = some (.int .i64 p.sq) ∧ W.cell? ⟨b, o + (k - 1) * 5 + 2, none⟩ = some (.int .i64 p.ty) ∧ W.cell? ⟨b, o + (k - 1) * 5 + 3, none⟩ = some (.int .i64 p.tm) ∧ W.cell? ⟨b, o + (k - 1) * 5 + 4, none⟩ = some (.slice A2 p.vals.length cp)) (by repeat (first | exact grows_cell _ _ _ | exact grows_true | refine grows_and ?_ ?_)) (by kernel_rfl) (by kernel_rfl) ?hF ?_; (case hF => (first | exact ⟨‹_›, ‹_›⟩ | (go_simp; done) | (simp [*]; done) | (repeat' (first | (refine And.intro ?_ ?_) | (go_simp; done) | exact cell_stays (bel_al (Below.refl _ _) _) (by assumption) | assumption)))); intro hne hxx; have hG : Hid (Grows (fun W => W.cell? ⟨b, o + k * 5, none⟩ = some (.int .i64 x.src) ∧ W.cell? ⟨b, o + k * 5 + 1, none⟩ = some (.int .i64 x.sq) ∧ W.cell? ⟨b, o + k * 5 + 2, none⟩ = some (.int .i64 x.ty) ∧ W.cell? ⟨b, o + k * 5 + 3, none⟩ = some (.int .i64 x.tm) ∧ W.cell? ⟨b, o + k * 5 + 4, none⟩ = some (.slice A1 x.vals.length cx) ∧ W.cell? ⟨b, o + (k - 1) * 5, none⟩ = some (.int .i64 p.src) ∧ W.cell? ⟨b, o + (k - 1) * 5 + 1, none⟩ = some (.int .i64 p.sq) ∧ W.cell? ⟨b, o + (k - 1) * 5 + 2, none⟩ = some (.int .i64 p.ty) ∧ W.cell? ⟨b, o + (k - 1) * 5 + 3, none⟩ = some (.int .i64 p.tm) ∧ W.cell? ⟨b, o + (k - 1) * 5 + 4, none⟩ = some (.slice A2 p.vals.length cp))) := (by repeat (first | exact grows_cell _ _ _ | exact grows_true | refine grows_and ?_ ?_)); (repeat (go_big_quiet_step (first | (go_at_call 37; exact cls_call hG (rRef_bel _ _ _ _ _ _ _ _)) | (go_at_call 36; exact cls_call hG (HRR.out _))))); clear hG hxx hne; refine wpQuiet_nil ?_; rintro wq ⟨⟨w', hb', hF'⟩, rfl⟩
        by_cases hr0 : 0 ≤ r
        · have d3 : decide (0 ≤ r) = true := by simpa using hr0
          go_wp2_with fail
          go_ret
          exact ⟨ret_i (str_stop hget.out hi.out (evE_14 HP.out hk HK.out hgetp.out (by rw [HR.out]; exact hr0)) (by decide)), bel_tr HB4.out hb'⟩
        · have d3 : decide (0 ≤ r) = false := by simpa using hr0
          have HLT : Hid (lateE (l.take k) x = false) := Lib.hid (late_not hk HK.out hgetp.out (by rw [HR.out]; omega))
          have HBQ := Lib.hid (bel_tr HB4.out hb')
          obtain ⟨z0, z1, z2, z3, z4, -⟩ := hF'
          clear p0 p1 p2 p3 p4 c0 c1 c2 c3 c4 hb'
          go_wp2_with fail
          clear hr0 d1 d2 hk1 hk2
          have hz := Lib.hid (And.intro z0 (And.intro z1 (And.intro z2 (And.intro z3 z4))))
          clear z0 z1 z2 z3 z4
          refine wp_gen fun wz ez => ?_
          obtain rfl : wq = wz := ez.symm
          clear ez
          go_loopw [4] (fun i wr => ∃ j : Nat, j ≤ k ∧ i = .int .i64 j ∧ Hid ((l.take j).any (twinE x) = false) ∧ Below wq.heap.size wq wr) (fun i _ => k - (intOf i).toNat)
          case atStart => exact ⟨0, Nat.zero_le _, rfl, Lib.hid rfl, Below.refl _ _⟩
          case round =>
            obtain ⟨j, hj, rfl, hJ, hbj⟩ := hrel
            by_cases hjk : j < k
            · have hj' : (j : Int) < (k : Int) := by omega
              have hjl : (j : Int) < (l.length : Int) := by omega
              obtain ⟨_, _, hbo, vj, hvj, j0, j1, j2, j3, j4⟩ := HL.out j l[j] (List.getElem?_eq_getElem (by omega))
              simp only [Option.some.injEq, Addr.mk.injEq, and_true] at hbo
              obtain ⟨rfl, rfl⟩ := hbo
              obtain ⟨A3, cj, rfl, -⟩ := hvj
              have hgetj := Lib.hid (List.getElem?_eq_getElem (l := l) (i := j) (by omega))
              obtain ⟨y, hy⟩ : ∃ y, y = l[j] := ⟨_, rfl⟩
              rw [← hy] at j0 j1 j2 j3 j4 hgetj
              clear hy
              have hbw := bel_tr HBQ.out hbj
              replace j0 := cell_stays hbw j0
              replace j1 := cell_stays hbw j1
              replace j2 := cell_stays hbw j2
              replace j3 := cell_stays hbw j3
              replace j4 := cell_stays hbw j4
              obtain ⟨z0, z1, z2, z3, z4⟩ := hz.out
              replace z0 := cell_stays hbj z0
              replace z1 := cell_stays hbj z1
              replace z2 := cell_stays hbj z2
              replace z3 := cell_stays hbj z3
              replace z4 := cell_stays hbj z4
              obtain ⟨tb, htb⟩ : ∃ t, twinB y.src y.sq x.src x.sq = t := ⟨_, rfl⟩
              have HTB := Lib.hid htb
              have HTW : Hid (∀ W, Calls Tryz.prog 91 #[.agg #[.int .i64 y.src, .int .i64 y.sq, .int .i64 y.ty, .int .i64 y.tm, .slice A3 y.vals.length cj], .agg #[.int .i64 x.src, .int .i64 x.sq, .int .i64 x.ty, .int .i64 x.tm, .slice A1 x.vals.length cx]] W fun e w' => e = .returned (.bool tb) ∧ Below W.heap.size W w') := Lib.hid fun W => by rw [← htb]; exact rtwin_raw _ _ _ _ _ _ _ _ _ _ _ _ _ _ W
              clear htb hbw
              go_wp2_with fail
              refine wp_region_F (fun W => W.cell? ⟨b, o + k * 5, none⟩ = some (.int .i64 x.src) ∧ W.cell? ⟨b, o + k * 5 + 1, none⟩ = some (.int .i64 x.sq) ∧ W.cell? ⟨b, o + k * 5 + 2, none⟩ = some (.int .i64 x.ty) ∧ W.cell? ⟨b, o + k * 5 + 3, none⟩ = some (.int .i64 x.tm) ∧ W.cell? ⟨b, o + k * 5 + 4, none⟩ = some (.slice A1 x.vals.length cx) ∧ W.cell? ⟨b, o + j * 5, none⟩ = some (.int .i64 y.src) ∧ W.cell? ⟨b, o + j * 5 + 1, none⟩ = some (.int .i64 y.sq) ∧ W.cell? ⟨b, o + j * 5 + 2, none⟩ = some (.int .i64 y.ty) ∧ W.cell? ⟨b, o + j * 5 + 3, none⟩ = some (.int .i64 y.tm) ∧ W.cell? ⟨b, o + j * 5 + 4, none⟩ = some (.slice A3 y.vals.length cj)) (by repeat (first | exact grows_cell _ _ _ | exact grows_true | refine grows_and ?_ ?_)) (by kernel_rfl) (by kernel_rfl) ?hF ?_; (case hF => (first | exact ⟨‹_›, ‹_›⟩ | (go_simp; done) | (simp [*]; done) | (repeat' (first | (refine And.intro ?_ ?_) | (go_simp; done) | exact cell_stays (bel_al (Below.refl _ _) _) (by assumption) | assumption)))); intro hne hxx; have hG : Hid (Grows (fun W => W.cell? ⟨b, o + k * 5, none⟩ = some (.int .i64 x.src) ∧ W.cell? ⟨b, o + k * 5 + 1, none⟩ = some (.int .i64 x.sq) ∧ W.cell? ⟨b, o + k * 5 + 2, none⟩ = some (.int .i64 x.ty) ∧ W.cell? ⟨b, o + k * 5 + 3, none⟩ = some (.int .i64 x.tm) ∧ W.cell? ⟨b, o + k * 5 + 4, none⟩ = some (.slice A1 x.vals.length cx) ∧ W.cell? ⟨b, o + j * 5, none⟩ = some (.int .i64 y.src) ∧ W.cell? ⟨b, o + j * 5 + 1, none⟩ = some (.int .i64 y.sq) ∧ W.cell? ⟨b, o + j * 5 + 2, none⟩ = some (.int .i64 y.ty) ∧ W.cell? ⟨b, o + j * 5 + 3, none⟩ = some (.int .i64 y.tm) ∧ W.cell? ⟨b, o + j * 5 + 4, none⟩ = some (.slice A3 y.vals.length cj))) := (by repeat (first | exact grows_cell _ _ _ | exact grows_true | refine grows_and ?_ ?_)); (repeat (go_big_quiet_step ((go_at_call 91; exact cls_call hG (HTW.out _))))); clear hG hxx hne; refine wpQuiet_nil ?_; rintro wq ⟨⟨w', hb', hF'⟩, rfl⟩
              cases tb
              · go_wp2_with fail
                go_roundw
                case rel => exact ⟨j + 1, by omega, by go_num, Lib.hid (any_take_next hgetj.out hJ.out HTB.out), bel_tr hbj hb'⟩
                case measure => simp [intOf]; omega
              · go_wp2_with fail
                go_ret
                exact ⟨ret_i (str_stop hget.out hi.out (evE_7 HP.out HLT.out (any_take_hit hgetj.out hjk HTB.out)) (by decide)), bel_tr HBQ.out (bel_tr hbj hb')⟩
            · have hj' : ¬ (j : Int) < (k : Int) := by omega
              have hje : j = k := by omega
              have HJE := Lib.hid hje
              clear hje
              go_wp2_with fail
              go_roundw
              case rel => exact ⟨k + 1, by omega, by go_num, Lib.hid (str_go hget.out hi.out (evE_0 HP.out HLT.out (by rw [← HJE.out]; exact hJ.out))), bel_tr HBQ.out hbj⟩
              case measure => simp [intOf]; omega
    · have hk' : ¬ (k : Int) < (l.length : Int) := by omega
      go_wp2_with fail
      go_ret
      exact ⟨ret_i (str_end (by omega) hi.out), hb⟩
end Go.Proofs.YtclpglgigpjfoaaGreatDoor
