/- slices.BinarySearchFunc at events, stream.Find. -/
import Derived.Test.YtclpglgigpjfoaaDoorMstrc
namespace Go.Proofs.YtclpglgigpjfoaaDoor
open Go.RowKit

/-- where the event with a Ref stands, and whether it stands there -/
def hitE (l : List Evt) (r : Bnd) : Bool := match l[lowE l r]? with
  | some e => refEq (eRef e) r
  | none => false

set_option maxRecDepth 100000 in
set_option maxHeartbeats 2000000 in
theorem bsearch_any (l : List Evt) (r : Bnd) (v : Value) (w : World) (hl : IsEvts w v l) (hlen : l.length ≤ 4096) (ha : l.Pairwise fun a b => refsC (eRef a) (eRef b) < 0) :
    Calls Tryd.prog 46 #[v, refV r, .func (.func 47) #[] #[]] w fun e w' => e = .returned (.tuple #[.int .i64 (lowE l r), .bool (hitE l r)]) ∧ Below w.heap.size w w' := by
  obtain ⟨A, c, rfl, h1, h2, hat⟩ := hl
  have hn := len_i64 h1 h2
  have HL := Lib.hid hat
  clear hat h1 h2
  have HA := Lib.hid ha
  clear ha
  obtain ⟨low, hlow⟩ : ∃ low, lowE l r = low := ⟨_, rfl⟩
  have hll : low ≤ l.length := by rw [← hlow]; exact low_le l r
  have HLOW := Lib.hid hlow
  obtain ⟨t, ht⟩ : ∃ t, hitE l r = t := ⟨_, rfl⟩
  have HT := Lib.hid ht
  unfold refV
  rw [hlow, ht]
  clear hlow ht
  go_enter Tryd.func46, Tryd.ntmps46
  go_wp2_with fail
  refine wp_gen fun w0 e0 => ?_
  have hb0 : Below w.heap.size w w0 := by rw [e0]; exact (by repeat (first | exact Below.refl _ _ | assumption | refine Below.drew ?_ | refine bel_al ?_ _ | refine bel_set ?_ (by omega) _ | refine bel_tr ?_ (by assumption)))
  have x0 : w0.cell? ⟨w.heap.size, 0, none⟩ = some (.int .i64 r.t) := by rw [e0]; go_simp
  have x1 : w0.cell? ⟨w.heap.size, 1, none⟩ = some (.int .i64 r.s) := by rw [e0]; go_simp
  have x2 : w0.cell? ⟨w.heap.size, 2, none⟩ = some (.int .i64 r.n) := by rw [e0]; go_simp
  have HX := Lib.hid (And.intro x0 (And.intro x1 x2))
  have HB0 := Lib.hid hb0
  clear e0 hb0 x0 x1 x2
  go_loopw [9, 10] (fun i j wr => ∃ a b : Nat, a ≤ low ∧ low ≤ b ∧ b ≤ l.length ∧ i = .int .i64 a ∧ j = .int .i64 b ∧ Below w0.heap.size w0 wr) (fun i j _ => (intOf j).toNat - (intOf i).toNat)
  case atStart => exact ⟨0, l.length, Nat.zero_le _, hll, Nat.le_refl _, rfl, rfl, Below.refl _ _⟩
  case round =>
    obtain ⟨p, q, hpl, hlq, hql, rfl, rfl, hb⟩ := hrel
    obtain ⟨x0, x1, x2⟩ := HX.out
    replace x0 := cell_stays hb x0
    replace x1 := cell_stays hb x1
    replace x2 := cell_stays hb x2
    by_cases hpq : p < q
    · have hpq' : (p : Int) < (q : Int) := by omega
      go_wp2_with fail
      obtain ⟨h, hh⟩ : ∃ h : Nat, h = (p + q) / 2 := ⟨_, rfl⟩
      have hhl : (h : Int) < (l.length : Int) := by omega
      have hhp : p ≤ h := by omega
      have hhq : h < q := by omega
      rw [show ((p : Int) + (q : Int)) / 2 = (h : Int) from by omega]
      clear hh
      obtain ⟨b, o, rfl, vv, hvv, c0, c1, c2, c3, c4⟩ := HL.out h l[h] (List.getElem?_eq_getElem (by omega))
      replace c0 := cell_stays (bel_tr HB0.out hb) c0
      replace c1 := cell_stays (bel_tr HB0.out hb) c1
      replace c2 := cell_stays (bel_tr HB0.out hb) c2
      replace c3 := cell_stays (bel_tr HB0.out hb) c3
      replace c4 := cell_stays (bel_tr HB0.out hb) c4
      obtain ⟨A1, cx, rfl, -⟩ := hvv
      have hget := Lib.hid (List.getElem?_eq_getElem (l := l) (i := h) (by omega))
      obtain ⟨x, hx⟩ : ∃ x, x = l[h] := ⟨_, rfl⟩
      rw [← hx] at hget c0 c1 c2 c3 c4
      clear hx
      obtain ⟨d, hd⟩ : ∃ d, refsC (eRef x) r = d := ⟨_, rfl⟩
      have HD := Lib.hid hd
      have HCM : Hid (∀ W, Calls Tryd.prog 47 #[.agg #[.int .i64 x.src, .int .i64 x.sq, .int .i64 x.ty, .int .i64 x.tm, .slice A1 x.vals.length cx], .agg #[.int .i64 r.t, .int .i64 r.s, .int .i64 r.n]] W fun e w' => e = .returned (.int .i64 d) ∧ Below W.heap.size W w') := Lib.hid fun W => (evref_any x r A1 _ cx W).mono (fun e w' ⟨h1, h2⟩ => ⟨h1.trans (by rw [hd]), h2.below⟩)
      clear hd
      refine wp_region_F (fun W => W.cell? ⟨b, o + h * 5, none⟩ = some (.int .i64 x.src) ∧ W.cell? ⟨b, o + h * 5 + 1, none⟩ = some (.int .i64 x.sq) ∧ W.cell? ⟨b, o + h * 5 + 2, none⟩ = some (.int .i64 x.ty) ∧ W.cell? ⟨b, o + h * 5 + 3, none⟩ = some (.int .i64 x.tm) ∧ W.cell? ⟨b, o + h * 5 + 4, none⟩ = some (.slice A1 x.vals.length cx) ∧ W.cell? ⟨w.heap.size, 0, none⟩ = some (.int .i64 r.t) ∧ W.cell? ⟨w.heap.size, 1, none⟩ = some (.int .i64 r.s) ∧ W.cell? ⟨w.heap.size, 2, none⟩ = some (.int .i64 r.n)) (by repeat (first | exact grows_cell _ _ _ | exact grows_true | refine grows_and ?_ ?_)) (by kernel_rfl) (by kernel_rfl) ?hF ?_; (case hF => (first | exact ⟨‹_›, ‹_›⟩ | (go_simp; done) | (simp [*]; done) | (repeat' (first | (refine And.intro ?_ ?_) | (go_simp; done) | exact cell_stays (bel_al (Below.refl _ _) _) (by assumption) | assumption)))); intro hne hxx; have hG : Hid (Grows (fun W => W.cell? ⟨b, o + h * 5, none⟩ = some (.int .i64 x.src) ∧ W.cell? ⟨b, o + h * 5 + 1, none⟩ = some (.int .i64 x.sq) ∧ W.cell? ⟨b, o + h * 5 + 2, none⟩ = some (.int .i64 x.ty) ∧ W.cell? ⟨b, o + h * 5 + 3, none⟩ = some (.int .i64 x.tm) ∧ W.cell? ⟨b, o + h * 5 + 4, none⟩ = some (.slice A1 x.vals.length cx) ∧ W.cell? ⟨w.heap.size, 0, none⟩ = some (.int .i64 r.t) ∧ W.cell? ⟨w.heap.size, 1, none⟩ = some (.int .i64 r.s) ∧ W.cell? ⟨w.heap.size, 2, none⟩ = some (.int .i64 r.n))) := (by repeat (first | exact grows_cell _ _ _ | exact grows_true | refine grows_and ?_ ?_)); (repeat (go_big_quiet_step ((go_at_call 47; exact cls_call hG (HCM.out _))))); clear hG hxx hne; refine wpQuiet_nil ?_; rintro wq ⟨⟨w', hb', hF'⟩, rfl⟩
      have hlo := low_at (r := r) HA.out hget.out
      rw [HD.out, HLOW.out] at hlo
      by_cases hd0 : d < 0
      · have hlt : h < low := hlo.1 hd0
        clear hlo
        go_wp2_with fail
        go_roundw
        case rel => exact ⟨h + 1, q, by omega, hlq, hql, by go_num, rfl, bel_tr hb hb'⟩
        case measure => simp [intOf]; omega
      · have hlt : low ≤ h := by
          rcases Nat.lt_or_ge h low with h1 | h1
          · exact absurd (hlo.2 h1) hd0
          · exact h1
        clear hlo
        go_wp2_with fail
        go_roundw
        case rel => exact ⟨p, h, hpl, hlt, by omega, rfl, rfl, bel_tr hb hb'⟩
        case measure => simp [intOf]; omega
    · have hpq' : ¬ (p : Int) < (q : Int) := by omega
      have hpe : p = low := by omega
      have hqe : p = q := by omega
      clear hpl hlq hpq hql hpq'
      subst hqe
      subst hpe
      by_cases hlt : p < l.length
      · have hlt' : (p : Int) < (l.length : Int) := by omega
        have hlt2 : decide ((p : Int) < (l.length : Int)) = true := by simpa using hlt
        obtain ⟨b, o, rfl, vv, hvv, c0, c1, c2, c3, c4⟩ := HL.out p l[p] (List.getElem?_eq_getElem (by omega))
        replace c0 := cell_stays (bel_tr HB0.out hb) c0
        replace c1 := cell_stays (bel_tr HB0.out hb) c1
        replace c2 := cell_stays (bel_tr HB0.out hb) c2
        replace c3 := cell_stays (bel_tr HB0.out hb) c3
        replace c4 := cell_stays (bel_tr HB0.out hb) c4
        obtain ⟨A1, cx, rfl, -⟩ := hvv
        have hget := Lib.hid (List.getElem?_eq_getElem (l := l) (i := p) (by omega))
        obtain ⟨x, hx⟩ : ∃ x, x = l[p] := ⟨_, rfl⟩
        rw [← hx] at hget c0 c1 c2 c3 c4
        clear hx
        obtain ⟨d, hd⟩ : ∃ d, refsC (eRef x) r = d := ⟨_, rfl⟩
        have HD := Lib.hid hd
        have HCM : Hid (∀ W, Calls Tryd.prog 47 #[.agg #[.int .i64 x.src, .int .i64 x.sq, .int .i64 x.ty, .int .i64 x.tm, .slice A1 x.vals.length cx], .agg #[.int .i64 r.t, .int .i64 r.s, .int .i64 r.n]] W fun e w' => e = .returned (.int .i64 d) ∧ Below W.heap.size W w') := Lib.hid fun W => (evref_any x r A1 _ cx W).mono (fun e w' ⟨h1, h2⟩ => ⟨h1.trans (by rw [hd]), h2.below⟩)
        clear hd
        go_wp2_with fail
        refine wp_region_F (fun W => W.cell? ⟨b, o + p * 5, none⟩ = some (.int .i64 x.src) ∧ W.cell? ⟨b, o + p * 5 + 1, none⟩ = some (.int .i64 x.sq) ∧ W.cell? ⟨b, o + p * 5 + 2, none⟩ = some (.int .i64 x.ty) ∧ W.cell? ⟨b, o + p * 5 + 3, none⟩ = some (.int .i64 x.tm) ∧ W.cell? ⟨b, o + p * 5 + 4, none⟩ = some (.slice A1 x.vals.length cx) ∧ W.cell? ⟨w.heap.size, 0, none⟩ = some (.int .i64 r.t) ∧ W.cell? ⟨w.heap.size, 1, none⟩ = some (.int .i64 r.s) ∧ W.cell? ⟨w.heap.size, 2, none⟩ = some (.int .i64 r.n)) (by repeat (first | exact grows_cell _ _ _ | exact grows_true | refine grows_and ?_ ?_)) (by kernel_rfl) (by kernel_rfl) ?hF ?_; (case hF => (first | exact ⟨‹_›, ‹_›⟩ | (go_simp; done) | (simp [*]; done) | (repeat' (first | (refine And.intro ?_ ?_) | (go_simp; done) | exact cell_stays (bel_al (Below.refl _ _) _) (by assumption) | assumption)))); intro hne hxx; have hG : Hid (Grows (fun W => W.cell? ⟨b, o + p * 5, none⟩ = some (.int .i64 x.src) ∧ W.cell? ⟨b, o + p * 5 + 1, none⟩ = some (.int .i64 x.sq) ∧ W.cell? ⟨b, o + p * 5 + 2, none⟩ = some (.int .i64 x.ty) ∧ W.cell? ⟨b, o + p * 5 + 3, none⟩ = some (.int .i64 x.tm) ∧ W.cell? ⟨b, o + p * 5 + 4, none⟩ = some (.slice A1 x.vals.length cx) ∧ W.cell? ⟨w.heap.size, 0, none⟩ = some (.int .i64 r.t) ∧ W.cell? ⟨w.heap.size, 1, none⟩ = some (.int .i64 r.s) ∧ W.cell? ⟨w.heap.size, 2, none⟩ = some (.int .i64 r.n))) := (by repeat (first | exact grows_cell _ _ _ | exact grows_true | refine grows_and ?_ ?_)); (repeat (go_big_quiet_step ((go_at_call 47; exact cls_call hG (HCM.out _))))); clear hG hxx hne; refine wpQuiet_nil ?_; rintro wq ⟨⟨w', hb', hF'⟩, rfl⟩
        go_wp2_with fail
        go_ret2
        have hte : t = (d == 0) := by
          rw [← HT.out]
          unfold hitE
          rw [HLOW.out, hget.out]
          simp only [refEq_iff, HD.out]
          exact (Bool.beq_eq_decide_eq d 0).symm
        rw [hte]
        exact ⟨rfl, bel_tr HB0.out (bel_tr hb hb')⟩
      · have hlt' : ¬ (p : Int) < (l.length : Int) := by omega
        have hlt2 : decide ((p : Int) < (l.length : Int)) = false := by simpa using hlt
        go_wp2_with fail
        refine wp_region_F (fun W => W.cell? ⟨w.heap.size, 0, none⟩ = some (.int .i64 r.t) ∧ W.cell? ⟨w.heap.size, 1, none⟩ = some (.int .i64 r.s)) (by repeat (first | exact grows_cell _ _ _ | exact grows_true | refine grows_and ?_ ?_)) (by kernel_rfl) (by kernel_rfl) ?hF ?_; (case hF => (first | exact ⟨‹_›, ‹_›⟩ | (go_simp; done) | (simp [*]; done) | (repeat' (first | (refine And.intro ?_ ?_) | (go_simp; done) | exact cell_stays (bel_al (Below.refl _ _) _) (by assumption) | assumption)))); intro hne hxx; have hG : Hid (Grows (fun W => W.cell? ⟨w.heap.size, 0, none⟩ = some (.int .i64 r.t) ∧ W.cell? ⟨w.heap.size, 1, none⟩ = some (.int .i64 r.s))) := (by repeat (first | exact grows_cell _ _ _ | exact grows_true | refine grows_and ?_ ?_)); (repeat (go_big_quiet_step (fail))); clear hG hxx hne; refine wpQuiet_nil ?_; rintro wq ⟨⟨w', hb', hF'⟩, rfl⟩
        go_wp2_with fail
        go_ret2
        have hte : t = false := by
          rw [← HT.out]
          unfold hitE
          rw [HLOW.out, List.getElem?_eq_none (by omega)]
        rw [hte]
        exact ⟨rfl, bel_tr HB0.out (bel_tr hb hb')⟩

def FindRet (w : World) (l : List Evt) (r : Bnd) (e : Ending) (W : World) : Prop := e = .returned (.tuple #[.int .i64 (lowE l r), .bool (hitE l r), .int .i64 0]) ∧ Below w.heap.size w W
/-- stream.Find at a stream without an error -/
theorem find_any (l : List Evt) (r : Bnd) (v : Value) (w : World) (hl : IsEvts w v l) (h0 : strErr l = 0) :
    Calls Tryd.prog 28 #[v, refV r] w (FindRet w l r) := by
  obtain ⟨hok, hlen⟩ := strErr_ok h0
  have HL := Lib.hid hl
  have H0 := Lib.hid h0
  have HA := Lib.hid hok.asc
  clear h0 hok
  obtain ⟨A, c, rfl, -⟩ := hl
  unfold refV
  go_enter Tryd.func28, Tryd.ntmps28
  go_wp2_with fail
  refine calls_gen fun W9 e9 => ?_
  have y0 : W9.cell? ⟨w.heap.size, 0, none⟩ = some (.int .i64 r.t) := by rw [e9]; go_simp
  have y1 : W9.cell? ⟨w.heap.size, 1, none⟩ = some (.int .i64 r.s) := by rw [e9]; go_simp
  have y2 : W9.cell? ⟨w.heap.size, 2, none⟩ = some (.int .i64 r.n) := by rw [e9]; go_simp
  have hb9 : Below w.heap.size w W9 := by rw [e9]; exact (by repeat (first | exact Below.refl _ _ | assumption | refine Below.drew ?_ | refine bel_al ?_ _ | refine bel_set ?_ (by omega) _ | refine bel_tr ?_ (by assumption)))
  clear e9
  refine (strchk_any l _ _ (HL.out.stays evtAt_stays hb9)).mono ?_
  rw [H0.out]
  rintro e w4 ⟨rfl, hb4⟩
  replace y0 := cell_stays hb4 y0
  replace y1 := cell_stays hb4 y1
  replace y2 := cell_stays hb4 y2
  have HB := Lib.hid (bel_tr hb9 hb4)
  clear hb9 hb4
  go_wp2_with fail
  refine (bsearch_any l r _ _ (HL.out.stays evtAt_stays HB.out) hlen HA.out).mono ?_
  rintro e w5 ⟨rfl, hb5⟩
  go_wp2_with fail
  go_ret3
  exact ⟨rfl, bel_tr HB.out hb5⟩
end Go.Proofs.YtclpglgigpjfoaaDoor
