/- Plain laws of difference bounds: models and values; one more bound; the span of an unknown. -/
import Derived.Test.YtgecbjjcjemcgaaDholds
namespace Go.Proofs.Ytgecbjjcjemcgaa
open Go.RowKit

theorem satB_iff {bs : List Bd} {vs : List Int} : satB bs vs = true ↔ satE (gd vs) (bs.map ed) := by
  unfold satB satE
  rw [List.all_eq_true]
  constructor
  · intro h b hb
    obtain ⟨x, hx, rfl⟩ := List.mem_map.1 hb
    simpa [satOne, ed] using h x hx
  · intro h b hb
    simpa [satOne, ed] using h (ed b) (List.mem_map_of_mem hb)
theorem gd_over {d : List Int} {i : Nat} (h : d.length ≤ i) : gd d i = 0 := by
  unfold gd; rw [List.getD_eq_getElem?_getD, List.getElem?_eq_none h]; rfl
theorem gd_modelOf {d : List Int} {i : Nat} (h : i < d.length) : gd (modelOf d) i = gd d i - gd d 0 := by
  apply gd_get
  unfold modelOf
  rw [List.getElem?_map, gd_at h]
  rfl
theorem model_sat {n : Nat} {es : List Ed} (hok : okE n es) (hf : feas n es = true) : satE (gd (modelOf (sums n es))) es := by
  intro b hb
  have h := feas_sat hf b hb
  have h1 := hok b hb
  rw [gd_modelOf (by rw [sums_len]; exact h1.1), gd_modelOf (by rw [sums_len]; exact h1.2)]
  omega
theorem model_holds {n : Int} {bs : List Bd} (hz : zoneErr n bs = 0) (hn : n ≤ 6) (hl : bs.length ≤ 64) (hf : feas n.toNat (bs.map ed) = true) : holdsR n bs (modelOf (sums n.toNat (bs.map ed))) = (true, 0) := by
  obtain ⟨h1, -, -, hg⟩ := good_of hz
  have hlen : ((modelOf (sums n.toNat (bs.map ed))).length : Int) = n := by rw [modelOf_length, sums_len]; omega
  have hlow := sums_low hg
  have hm : (n.toNat + 1) * bs.length ≤ 7 * 64 := Nat.mul_le_mul (by omega) hl
  have hfar : (modelOf (sums n.toNat (bs.map ed))).any farI = false := by
    rw [List.any_eq_false]
    intro x hx
    unfold modelOf at hx
    obtain ⟨y, hy, rfl⟩ := List.mem_map.1 hx
    obtain ⟨j, hj⟩ := List.mem_iff_getElem?.1 hy
    have h2 := hlow j
    have h3 := hlow 0
    rw [gd_get hj] at h2
    unfold farI
    simp only [Bool.or_eq_true, decide_eq_true_eq, not_or]
    omega
  have h0 : gd (modelOf (sums n.toNat (bs.map ed))) 0 = 0 := by rw [gd_modelOf (by rw [sums_len]; omega)]; omega
  unfold holdsR
  rw [if_pos hz, if_pos hlen, hfar, if_neg (by simp), if_pos h0, satB_iff.2 (model_sat (good_ok hg) hf)]
theorem holdsR_sat {n : Int} {bs : List Bd} {vs : List Int} (h : (holdsR n bs vs).1 = true) : satE (gd vs) (bs.map ed) := by
  unfold holdsR at h
  split at h
  · split at h
    · split at h
      · simp at h
      · split at h
        · exact satB_iff.1 h
        · simp at h
    · simp at h
  · simp at h
theorem infeas_holds {n : Int} {bs : List Bd} (hz : zoneErr n bs = 0) (hf : feas n.toNat (bs.map ed) = false) (vs : List Int) : (holdsR n bs vs).1 = false := by
  cases h : (holdsR n bs vs).1 with
  | false => rfl
  | true =>
    obtain ⟨-, -, -, hg⟩ := good_of hz
    have := (feas_iff (good_ok hg)).2 ⟨_, holdsR_sat h⟩
    rw [hf] at this
    cases this

theorem satE_app {val : Nat → Int} {a b : List Ed} : satE val (a ++ b) ↔ satE val a ∧ satE val b := by
  unfold satE
  simp only [List.mem_append]
  exact ⟨fun h => ⟨fun e he => h e (.inl he), fun e he => h e (.inr he)⟩, fun h e he => he.elim (h.1 e) (h.2 e)⟩
theorem satE_one {val : Nat → Int} {e : Ed} : satE val [e] ↔ val e.x - val e.y ≤ e.m := by simp [satE]
theorem okE_app {n : Nat} {a b : List Ed} (h1 : okE n a) (h2 : okE n b) : okE n (a ++ b) := fun e he => (List.mem_append.1 he).elim (h1 e) (h2 e)
theorem okE_one {n : Nat} {e : Ed} (h1 : e.x < n) (h2 : e.y < n) : okE n [e] := fun b hb => by rw [List.mem_singleton.1 hb]; exact ⟨h1, h2⟩

/-- one more bound: there is a model where x exceeds y by c or more -/
theorem add_model {n : Nat} {es : List Ed} (hok : okE n es) {val : Nat → Int} (hv : satE val es) {x y : Nat} (hy : y < n) {c : Int} (hc : ∀ d, tight n es x y = some d → c ≤ d) : ∃ f, satE f es ∧ c ≤ f x - f y := by
  refine ⟨fun k => match tight n es k y with
    | some d => min (val k) (val x - c + d)
    | none => val k, ?_, ?_⟩
  · intro b hb
    have hv1 := hv b hb
    obtain ⟨hbx, hby⟩ := hok b hb
    obtain ⟨hx1, hx2⟩ := tight_least hok hv hbx hy
    obtain ⟨hy1, hy2⟩ := tight_least hok hv hby hy
    simp only
    cases h2 : tight n es b.y y with
    | none =>
      simp only
      cases h1 : tight n es b.x y with
      | none => simp only; exact hv1
      | some d1 => simp only; omega
    | some d2 =>
      obtain ⟨⟨fs, hw, hwt⟩, -⟩ := hy1 d2 h2
      have hway : isWay es b.x (b :: fs) y := ⟨hb, rfl, hw⟩
      cases h1 : tight n es b.x y with
      | none => exact absurd hway (hx2 h1 _)
      | some d1 =>
        have h3 := (hx1 d1 h1).2 _ hway
        have h4 : wt (b :: fs) = b.m + wt fs := rfl
        simp only
        omega
  · obtain ⟨hy1, hy2⟩ := tight_least hok hv hy hy
    have hnil : isWay es y [] y := rfl
    simp only
    cases h1 : tight n es y y with
    | none => exact absurd hnil (hy2 h1 _)
    | some d0 =>
      have h3 := (hy1 d0 h1).2 _ hnil
      have h4 : wt [] = 0 := rfl
      cases h2 : tight n es x y with
      | none => simp only; omega
      | some d =>
        have := hc d h2
        simp only
        omega
theorem feas_add {n : Nat} {es : List Ed} (hok : okE n es) (hf : feas n es = true) {x y : Nat} (hx : x < n) (hy : y < n) (c : Int) : feas n (es ++ [⟨y, x, -c⟩]) = true ↔ ∀ d, tight n es x y = some d → c ≤ d := by
  have hv := feas_sat hf
  rw [feas_iff (okE_app hok (okE_one hy hx))]
  constructor
  · rintro ⟨val, hs⟩ d hd
    obtain ⟨h1, h2⟩ := satE_app.1 hs
    have h3 := satE_one.1 h2
    obtain ⟨⟨fs, hw, hwt⟩, -⟩ := (tight_least hok hv hx hy).1 d hd
    have h4 := way_sat h1 hw
    simp only at h3
    omega
  · intro hc
    obtain ⟨f, h1, h2⟩ := add_model hok hv hy hc
    exact ⟨f, satE_app.2 ⟨h1, satE_one.2 (by simp only; omega)⟩⟩

/-- the values of u in models are those from -lo to hi -/
theorem feas_span {n : Nat} {es : List Ed} (hok : okE n es) (hf : feas n es = true) {u : Nat} (h0 : 0 < n) (hu : u < n) {lo hi : Int} (hlo : tight n es 0 u = some lo) (hhi : tight n es u 0 = some hi) (v : Int) :
    feas n (es ++ [⟨u, 0, v⟩] ++ [⟨0, u, -v⟩]) = true ↔ -lo ≤ v ∧ v ≤ hi := by
  have hv := feas_sat hf
  rw [feas_iff (okE_app (okE_app hok (okE_one hu h0)) (okE_one h0 hu))]
  constructor
  · rintro ⟨val, hs⟩
    obtain ⟨hs1, h2⟩ := satE_app.1 hs
    obtain ⟨h1, h3⟩ := satE_app.1 hs1
    have h4 := satE_one.1 h2
    have h5 := satE_one.1 h3
    obtain ⟨⟨fs, hw, hwt⟩, -⟩ := (tight_least hok hv h0 hu).1 lo hlo
    obtain ⟨⟨gs, hw', hwt'⟩, -⟩ := (tight_least hok hv hu h0).1 hi hhi
    have h6 := way_sat h1 hw
    have h7 := way_sat h1 hw'
    simp only at h4 h5
    omega
  · rintro ⟨hl, hh⟩
    obtain ⟨f, f1, f2⟩ := add_model hok hv h0 (x := u) (c := v) (fun d hd => by rw [hhi] at hd; injection hd with hd; omega)
    obtain ⟨g, g1, g2⟩ := add_model hok hv hu (x := 0) (c := -v) (fun d hd => by rw [hlo] at hd; injection hd with hd; omega)
    refine ⟨fun k => min (f k - f 0) (g k - g u + v), satE_app.2 ⟨satE_app.2 ⟨?_, satE_one.2 ?_⟩, satE_one.2 ?_⟩⟩
    · intro b hb
      have h1 := f1 b hb
      have h2 := g1 b hb
      simp only
      omega
    · simp only; omega
    · simp only; omega

theorem bdsErr_app {n : Int} {a : List Bd} {b : Bd} (h1 : bdsErr n a = 0) (h2 : boundErr n b = 0) : bdsErr n (a ++ [b]) = 0 := by
  induction a with
  | nil => simp [bdsErr, h2]
  | cons x a ih =>
    simp only [bdsErr] at h1
    by_cases hx : boundErr n x = 0
    · rw [if_pos hx] at h1
      simp only [List.cons_append, bdsErr]
      rw [if_pos hx]
      exact ih h1
    · rw [if_neg hx] at h1
      exact absurd h1 hx
theorem zoneErr_parts {n : Int} {bs : List Bd} : zoneErr n bs = 0 ↔ nBad n = false ∧ bs.length ≤ 256 ∧ bdsErr n bs = 0 := by
  unfold zoneErr
  cases h : nBad n with
  | true => simp
  | false =>
    simp only [Bool.false_eq_true, if_false, true_and]
    by_cases h5 : 256 < (bs.length : Int)
    · rw [if_pos h5]
      constructor
      · intro h; omega
      · intro h; omega
    · rw [if_neg h5]
      exact ⟨fun h => ⟨by omega, h⟩, fun h => h.2⟩
theorem zoneErr_app {n : Int} {bs : List Bd} {b : Bd} (hz : zoneErr n bs = 0) (hl : bs.length < 256) (hb : boundErr n b = 0) : zoneErr n (bs ++ [b]) = 0 := by
  obtain ⟨h1, h2, h3⟩ := zoneErr_parts.1 hz
  exact zoneErr_parts.2 ⟨h1, by simp; omega, bdsErr_app h3 hb⟩
theorem boundErr_ok {n : Int} {b : Bd} (h1 : 0 ≤ b.x) (h2 : b.x < n) (h3 : 0 ≤ b.y) (h4 : b.y < n) (h5 : -1125899906842624 ≤ b.most) (h6 : b.most ≤ 1125899906842624) : boundErr n b = 0 := by
  unfold boundErr boundBad
  rw [if_neg]
  simp only [Bool.or_eq_true, decide_eq_true_eq, not_or]
  omega
theorem ed_nat (x y : Nat) (m : Int) : ed ⟨(x : Int), (y : Int), m⟩ = ⟨x, y, m⟩ := by simp [ed]
end Go.Proofs.Ytgecbjjcjemcgaa
