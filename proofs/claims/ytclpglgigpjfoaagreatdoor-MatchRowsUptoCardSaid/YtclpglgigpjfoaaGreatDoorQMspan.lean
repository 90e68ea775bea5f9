/- match.Span, ref17.Span. -/
import Derived.Test.YtclpglgigpjfoaaGreatDoorQLcmp
import Derived.Test.YtclpglgigpjfoaaGreatDoorQKown
import Derived.Test.YtclpglgigpjfoaaGreatDoorQMev
import Derived.Handy
namespace Go.Proofs.YtclpglgigpjfoaaGreatDoor
open Go.RowKit

def zeroBd : Bnd := ⟨0, 0, 0, 0⟩
def spanR (bs : List Bnd) : Int × Int × Int := if matErr bs ≠ 0 then (0, 0, matErr bs) else ((bs.headD zeroBd).t, (bs.getLastD zeroBd).t, 0)
def spanV (r : Int × Int × Int) : Value := .tuple #[.int .i64 r.1, .int .i64 r.2.1, .int .i64 r.2.2]
theorem spanR_bad {bs : List Bnd} {e : Int} (h : matErr bs = e) (h0 : e ≠ 0) : spanR bs = (0, 0, e) := by unfold spanR; rw [h, if_pos h0]
theorem spanR_ok {bs : List Bnd} {x y : Bnd} (h : matErr bs = 0) (h1 : bs[0]? = some x) (h2 : bs[bs.length - 1]? = some y) : spanR bs = (x.t, y.t, 0) := by
  unfold spanR
  rw [h, if_neg (by simp)]
  have e1 : bs.headD zeroBd = x := by cases bs with
    | nil => simp at h1
    | cons z l => simp at h1; exact h1
  have e2 : bs.getLastD zeroBd = y := by
    rw [List.getLastD_eq_getLast?, List.getLast?_eq_getElem?, h2]; rfl
  rw [e1, e2]

set_option maxRecDepth 100000 in
set_option maxHeartbeats 1000000 in
theorem span_any (bs : List Bnd) (v : Value) (w : World) (hl : IsBnds w v bs) :
    Calls Tryz.prog 12 #[matV v] w fun e W => e = .returned (spanV (spanR bs)) ∧ Below w.heap.size w W := by
  have HCK := Lib.hid (fun (W : World) (hb : Below w.heap.size w W) => mcheck_any bs v W (hl.stays bndAt_stays hb))
  obtain ⟨A, c, rfl, h1, h2, hat⟩ := hl
  have hn := len_i64 h1 h2
  have HAT := Lib.hid hat
  clear h1 h2 hat
  obtain ⟨er, her⟩ : ∃ er, matErr bs = er := ⟨_, rfl⟩
  rw [her] at HCK
  have HER := Lib.hid her
  clear her
  unfold matV
  unfold matV at HCK
  by_cases her0 : er = 0
  · subst her0
    obtain ⟨hne, -, -⟩ := mat_ok HER.out
    have hlen : 0 < bs.length := List.length_pos_iff.2 hne
    have hl2 : ¬ bs.length = 0 := by omega
    obtain ⟨m, hm⟩ : ∃ m, bs.length = m + 1 := ⟨bs.length - 1, by omega⟩
    obtain ⟨x, hx⟩ : ∃ x, bs[0]? = some x := ⟨_, List.getElem?_eq_getElem hlen⟩
    obtain ⟨y, hy⟩ : ∃ y, bs[m]? = some y := ⟨_, List.getElem?_eq_getElem (by omega)⟩
    obtain ⟨b, o, rfl, -, c1, -⟩ := HAT.out 0 x hx
    obtain ⟨b', o', hbo, -, d1, -⟩ := HAT.out m y hy
    have h3 : b = b' ∧ o = o' := by simpa using hbo
    obtain ⟨rfl, rfl⟩ := h3
    have HSP := Lib.hid (spanR_ok HER.out hx (by rw [hm]; exact hy))
    rw [Nat.zero_mul, Nat.add_zero] at c1
    rw [hm] at hn HCK ⊢
    clear hbo hx hy HAT hne hlen hl2 hm
    rw [HSP.out]
    unfold spanV
    have hbl : b < w.heap.size := World.block_lt_of_cell? w ⟨b, _, none⟩ c1
    go_enter Tryz.func12, Tryz.ntmps12
    go_wp2_with (go_at_call 14; refine calls_gen fun W9 e9 => ?_; have hb9 : Below w.heap.size w W9 := (by rw [e9]; exact (by repeat (first | exact Below.refl _ _ | assumption | refine Below.drew ?_ | refine bel_al ?_ _ | refine bel_set ?_ (by omega) _ | refine bel_tr ?_ (by assumption)))); have y0 : W9.cell? ⟨w.heap.size, 0, none⟩ = some (.slice (some ⟨b, o, none⟩) (m + 1) c) := (by rw [e9]; go_simp); clear e9; refine (HCK.out _ hb9).mono ?_; rintro e w1 ⟨rfl, hb1⟩; replace y0 := cell_stays hb1 y0; have hb91 := bel_tr hb9 hb1; replace c1 := cell_stays hb91 c1; replace d1 := cell_stays hb91 d1; have HB1 := Lib.hid hb91; clear hb9 hb1 hb91)
    refine wp_region_F (fun W => W.cell? ⟨w.heap.size, 0, none⟩ = some (.slice (some ⟨b, o, none⟩) (m + 1) c) ∧ W.cell? ⟨b, o + 1, none⟩ = some (.int .i64 x.t) ∧ W.cell? ⟨b, o + m * 4 + 1, none⟩ = some (.int .i64 y.t)) (by repeat (first | exact grows_cell _ _ _ | exact grows_true | refine grows_and ?_ ?_)) (by kernel_rfl) (by kernel_rfl) ?hF ?_; (case hF => (first | exact ⟨‹_›, ‹_›⟩ | (go_simp; done) | (simp [*]; done) | (repeat' (first | (refine And.intro ?_ ?_) | (go_simp; done) | exact cell_stays (bel_al (Below.refl _ _) _) (by assumption) | assumption)))); intro hne hxx; have hG : Hid (Grows (fun W => W.cell? ⟨w.heap.size, 0, none⟩ = some (.slice (some ⟨b, o, none⟩) (m + 1) c) ∧ W.cell? ⟨b, o + 1, none⟩ = some (.int .i64 x.t) ∧ W.cell? ⟨b, o + m * 4 + 1, none⟩ = some (.int .i64 y.t))) := (by repeat (first | exact grows_cell _ _ _ | exact grows_true | refine grows_and ?_ ?_)); (repeat (go_big_quiet_step (fail))); clear hG hxx hne; refine wpQuiet_nil ?_; rintro wq ⟨⟨w', hb', hF'⟩, rfl⟩
    have HB2 := Lib.hid (bel_tr HB1.out hb')
    clear hF'
    go_wp2_with fail
    go_returns
    exact ⟨rfl, HB2.out⟩
  · have HSP := Lib.hid (spanR_bad HER.out her0)
    rw [HSP.out]
    unfold spanV
    go_enter Tryz.func12, Tryz.ntmps12
    go_wp2_with (go_at_call 14; refine calls_gen fun W9 e9 => ?_; have hb9 : Below w.heap.size w W9 := (by rw [e9]; exact (by repeat (first | exact Below.refl _ _ | assumption | refine Below.drew ?_ | refine bel_al ?_ _ | refine bel_set ?_ (by omega) _ | refine bel_tr ?_ (by assumption)))); clear e9; refine (HCK.out _ hb9).mono ?_; rintro e w1 ⟨rfl, hb1⟩; have HB1 := Lib.hid (bel_tr hb9 hb1); clear hb9 hb1)
    go_returns
    exact ⟨rfl, HB1.out⟩
set_option maxRecDepth 100000 in
set_option maxHeartbeats 1000000 in
theorem rspan_any (bs : List Bnd) (v : Value) (w : World) (hl : IsBnds w v bs) :
    Calls Tryz.prog 13 #[matV v] w fun e W => e = .returned (spanV (spanR bs)) ∧ Below w.heap.size w W := by
  have HCK := Lib.hid (fun (W : World) (hb : Below w.heap.size w W) => rmcheck_any bs v W (hl.stays bndAt_stays hb))
  obtain ⟨A, c, rfl, h1, h2, hat⟩ := hl
  have hn := len_i64 h1 h2
  have HAT := Lib.hid hat
  clear h1 h2 hat
  obtain ⟨er, her⟩ : ∃ er, matErr bs = er := ⟨_, rfl⟩
  rw [her] at HCK
  have HER := Lib.hid her
  clear her
  unfold matV
  unfold matV at HCK
  by_cases her0 : er = 0
  · subst her0
    obtain ⟨hne, -, -⟩ := mat_ok HER.out
    have hlen : 0 < bs.length := List.length_pos_iff.2 hne
    have hl2 : ¬ bs.length = 0 := by omega
    obtain ⟨m, hm⟩ : ∃ m, bs.length = m + 1 := ⟨bs.length - 1, by omega⟩
    obtain ⟨x, hx⟩ : ∃ x, bs[0]? = some x := ⟨_, List.getElem?_eq_getElem hlen⟩
    obtain ⟨y, hy⟩ : ∃ y, bs[m]? = some y := ⟨_, List.getElem?_eq_getElem (by omega)⟩
    obtain ⟨b, o, rfl, -, c1, -⟩ := HAT.out 0 x hx
    obtain ⟨b', o', hbo, -, d1, -⟩ := HAT.out m y hy
    have h3 : b = b' ∧ o = o' := by simpa using hbo
    obtain ⟨rfl, rfl⟩ := h3
    have HSP := Lib.hid (spanR_ok HER.out hx (by rw [hm]; exact hy))
    rw [Nat.zero_mul, Nat.add_zero] at c1
    rw [hm] at hn HCK ⊢
    clear hbo hx hy HAT hne hlen hl2 hm
    rw [HSP.out]
    unfold spanV
    have hbl : b < w.heap.size := World.block_lt_of_cell? w ⟨b, _, none⟩ c1
    go_enter Tryz.func13, Tryz.ntmps13
    go_wp2_with (go_at_call 15; refine calls_gen fun W9 e9 => ?_; have hb9 : Below w.heap.size w W9 := (by rw [e9]; exact (by repeat (first | exact Below.refl _ _ | assumption | refine Below.drew ?_ | refine bel_al ?_ _ | refine bel_set ?_ (by omega) _ | refine bel_tr ?_ (by assumption)))); have y0 : W9.cell? ⟨w.heap.size, 0, none⟩ = some (.slice (some ⟨b, o, none⟩) (m + 1) c) := (by rw [e9]; go_simp); clear e9; refine (HCK.out _ hb9).mono ?_; rintro e w1 ⟨rfl, hb1⟩; replace y0 := cell_stays hb1 y0; have hb91 := bel_tr hb9 hb1; replace c1 := cell_stays hb91 c1; replace d1 := cell_stays hb91 d1; have HB1 := Lib.hid hb91; clear hb9 hb1 hb91)
    refine wp_region_F (fun W => W.cell? ⟨w.heap.size, 0, none⟩ = some (.slice (some ⟨b, o, none⟩) (m + 1) c) ∧ W.cell? ⟨b, o + 1, none⟩ = some (.int .i64 x.t) ∧ W.cell? ⟨b, o + m * 4 + 1, none⟩ = some (.int .i64 y.t)) (by repeat (first | exact grows_cell _ _ _ | exact grows_true | refine grows_and ?_ ?_)) (by kernel_rfl) (by kernel_rfl) ?hF ?_; (case hF => (first | exact ⟨‹_›, ‹_›⟩ | (go_simp; done) | (simp [*]; done) | (repeat' (first | (refine And.intro ?_ ?_) | (go_simp; done) | exact cell_stays (bel_al (Below.refl _ _) _) (by assumption) | assumption)))); intro hne hxx; have hG : Hid (Grows (fun W => W.cell? ⟨w.heap.size, 0, none⟩ = some (.slice (some ⟨b, o, none⟩) (m + 1) c) ∧ W.cell? ⟨b, o + 1, none⟩ = some (.int .i64 x.t) ∧ W.cell? ⟨b, o + m * 4 + 1, none⟩ = some (.int .i64 y.t))) := (by repeat (first | exact grows_cell _ _ _ | exact grows_true | refine grows_and ?_ ?_)); (repeat (go_big_quiet_step (fail))); clear hG hxx hne; refine wpQuiet_nil ?_; rintro wq ⟨⟨w', hb', hF'⟩, rfl⟩
    have HB2 := Lib.hid (bel_tr HB1.out hb')
    clear hF'
    go_wp2_with fail
    go_returns
    exact ⟨rfl, HB2.out⟩
  · have HSP := Lib.hid (spanR_bad HER.out her0)
    rw [HSP.out]
    unfold spanV
    go_enter Tryz.func13, Tryz.ntmps13
    go_wp2_with (go_at_call 15; refine calls_gen fun W9 e9 => ?_; have hb9 : Below w.heap.size w W9 := (by rw [e9]; exact (by repeat (first | exact Below.refl _ _ | assumption | refine Below.drew ?_ | refine bel_al ?_ _ | refine bel_set ?_ (by omega) _ | refine bel_tr ?_ (by assumption)))); clear e9; refine (HCK.out _ hb9).mono ?_; rintro e w1 ⟨rfl, hb1⟩; have HB1 := Lib.hid (bel_tr hb9 hb1); clear hb9 hb1)
    go_returns
    exact ⟨rfl, HB1.out⟩
end Go.Proofs.YtclpglgigpjfoaaGreatDoor
