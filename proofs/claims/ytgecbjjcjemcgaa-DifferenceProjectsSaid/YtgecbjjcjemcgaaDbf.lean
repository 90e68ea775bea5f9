/- Plain laws on difference bounds: relaxing all bounds again and again either comes to a model, or leaves a contradiction in the last bounds; no program in sight. -/
namespace Go.Proofs.Ytgecbjjcjemcgaa

structure Ed where
  x : Nat
  y : Nat
  m : Int

/-- sums, last bounds, the unknown that was improved last (or -1) -/
structure Rx where
  d : List Int
  l : List Int
  out : Int

def gd (d : List Int) (i : Nat) : Int := d.getD i 0
theorem gd_set (d : List Int) (i j : Nat) (v : Int) (hi : i < d.length) : gd (d.set i v) j = if i = j then v else gd d j := by
  unfold gd
  rw [List.getD_eq_getElem?_getD, List.getD_eq_getElem?_getD, List.getElem?_set]
  by_cases h : i = j
  · subst h; simp [hi]
  · simp [h]
theorem gd_same (d : List Int) (i : Nat) (v : Int) (hi : i < d.length) : gd (d.set i v) i = v := by rw [gd_set d i i v hi, if_pos rfl]
theorem gd_ne (d : List Int) {i j : Nat} (v : Int) (h : i ≠ j) : gd (d.set i v) j = gd d j := by
  unfold gd
  rw [List.getD_eq_getElem?_getD, List.getD_eq_getElem?_getD, List.getElem?_set_ne h]
theorem gd_get {d : List Int} {i : Nat} {v : Int} (h : d[i]? = some v) : gd d i = v := by unfold gd; rw [List.getD_eq_getElem?_getD, h]; rfl
theorem gd_at {d : List Int} {i : Nat} (h : i < d.length) : d[i]? = some (gd d i) := by
  rw [List.getElem?_eq_getElem h, gd_get (List.getElem?_eq_getElem h)]

def rstep (s : Rx) (i : Nat) (b : Ed) : Rx :=
  if gd s.d b.y + b.m < gd s.d b.x then ⟨s.d.set b.x (gd s.d b.y + b.m), s.l.set b.x i, b.x⟩ else s
def relaxK (bs : List Ed) (s : Rx) : Nat → Rx
  | 0 => s
  | k + 1 => match bs[k]? with
    | some b => rstep (relaxK bs s k) k b
    | none => relaxK bs s k
def rround (bs : List Ed) (s : Rx) : Rx := relaxK bs ⟨s.d, s.l, -1⟩ bs.length
def rinit (n : Nat) : Rx := ⟨List.replicate n 0, List.replicate n (-1), -1⟩
def runs (n : Nat) (bs : List Ed) : Nat → Rx
  | 0 => rinit n
  | r + 1 => rround bs (runs n bs r)

theorem relaxK_succ {bs : List Ed} {s : Rx} {k : Nat} {b : Ed} (h : bs[k]? = some b) : relaxK bs s (k + 1) = rstep (relaxK bs s k) k b := by
  simp only [relaxK, h]

/-! ### nothing improved: a model -/
theorem rstep_out {s : Rx} {i : Nat} {b : Ed} (h : (rstep s i b).out = -1) : rstep s i b = s ∧ gd s.d b.x ≤ gd s.d b.y + b.m := by
  unfold rstep at *
  by_cases hc : gd s.d b.y + b.m < gd s.d b.x
  · rw [if_pos hc] at h; simp only at h; omega
  · rw [if_neg hc]; exact ⟨rfl, by omega⟩
theorem relaxK_out {bs : List Ed} {s : Rx} : ∀ {k : Nat}, (relaxK bs s k).out = -1 → relaxK bs s k = s ∧ ∀ j b, j < k → bs[j]? = some b → gd s.d b.x ≤ gd s.d b.y + b.m := by
  intro k
  induction k with
  | zero => intro _; exact ⟨rfl, fun j b hj => by omega⟩
  | succ k ih =>
    intro h
    cases hb : bs[k]? with
    | none =>
      simp only [relaxK, hb] at h ⊢
      obtain ⟨h1, h2⟩ := ih h
      refine ⟨h1, fun j b hj hjb => h2 j b ?_ hjb⟩
      rcases Nat.lt_or_eq_of_le (Nat.le_of_lt_succ hj) with h3 | h3
      · exact h3
      · subst h3; rw [hb] at hjb; cases hjb
    | some b =>
      rw [relaxK_succ hb] at h ⊢
      obtain ⟨h1, h2⟩ := rstep_out h
      rw [h1] at h ⊢
      obtain ⟨h3, h4⟩ := ih h
      rw [h3] at h2
      refine ⟨h3, fun j b' hj hjb => ?_⟩
      rcases Nat.lt_or_eq_of_le (Nat.le_of_lt_succ hj) with h5 | h5
      · exact h4 j b' h5 hjb
      · subst h5; rw [hb] at hjb; injection hjb with hjb; subst hjb; exact h2

def satE (val : Nat → Int) (bs : List Ed) : Prop := ∀ b ∈ bs, val b.x - val b.y ≤ b.m

theorem rround_out {bs : List Ed} {s : Rx} (h : (rround bs s).out = -1) : rround bs s = ⟨s.d, s.l, -1⟩ ∧ satE (gd s.d) bs := by
  obtain ⟨h1, h2⟩ := relaxK_out h
  refine ⟨h1, fun b hb => ?_⟩
  obtain ⟨j, hj⟩ := List.mem_iff_getElem?.1 hb
  have := h2 j b (List.getElem?_eq_some_iff.1 hj).1 hj
  simp only at this
  omega

/-- once nothing is improved, nothing is ever -/
theorem runs_stable {n : Nat} {bs : List Ed} {r : Nat} (h : (runs n bs (r + 1)).out = -1) : ∀ k, (runs n bs (r + 1 + k)) = ⟨(runs n bs r).d, (runs n bs r).l, -1⟩ := by
  have h1 := (rround_out (s := runs n bs r) h).1
  have h2 : runs n bs (r + 1) = ⟨(runs n bs r).d, (runs n bs r).l, -1⟩ := h1
  intro k
  induction k with
  | zero => exact h2
  | succ k ih =>
    have h3 : runs n bs (r + 1 + (k + 1)) = rround bs (runs n bs (r + 1 + k)) := rfl
    rw [h3, ih]
    exact h1

/-- a model was found -/
def feas (n : Nat) (bs : List Ed) : Bool := (runs n bs (n + 1)).out == -1
def sums (n : Nat) (bs : List Ed) : List Int := (runs n bs (n + 1)).d
theorem feas_stop {n : Nat} {bs : List Ed} {r : Nat} (hr : r ≤ n) (h : (runs n bs (r + 1)).out = -1) : feas n bs = true ∧ sums n bs = (runs n bs (r + 1)).d := by
  have h1 := runs_stable h (n - r)
  have h2 := runs_stable h 0
  rw [show r + 1 + (n - r) = n + 1 by omega] at h1
  rw [Nat.add_zero] at h2
  unfold feas sums
  rw [h1, h2]
  exact ⟨rfl, rfl⟩
theorem feas_never {n : Nat} {bs : List Ed} (h : (runs n bs (n + 1)).out ≠ -1) : feas n bs = false := by unfold feas; simpa using h
theorem feas_sat {n : Nat} {bs : List Ed} (h : feas n bs = true) : satE (gd (sums n bs)) bs := by
  have h1 : (rround bs (runs n bs n)).out = -1 := by
    unfold feas at h
    have h' : (runs n bs (n + 1)).out = -1 := by simpa using h
    exact h'
  have h2 := rround_out h1
  have h3 : sums n bs = (rround bs (runs n bs n)).d := rfl
  rw [h3, h2.1]
  exact h2.2

/-! ### what holds while bounds are relaxed -/
def okE (n : Nat) (bs : List Ed) : Prop := ∀ b ∈ bs, b.x < n ∧ b.y < n

structure Inv (n : Nat) (bs : List Ed) (r p : Nat) (s : Rx) (T : Nat) (st R : Nat → Nat) : Prop where
  dl : s.d.length = n
  ll : s.l.length = n
  last : ∀ v, v < n → 0 < R v → ∃ (i : Nat) (b : Ed), gd s.l v = (i : Int) ∧ bs[i]? = some b ∧ b.x = v ∧ gd s.d b.y + b.m ≤ gd s.d v ∧ (st v ≤ st b.y → gd s.d b.y + b.m < gd s.d v) ∧ R v ≤ R b.y + 1
  sat : ∀ j b, bs[j]? = some b → gd s.d b.x ≤ gd s.d b.y + b.m ∨ (if j < p then r else r - 1) ≤ R b.y
  stl : ∀ v, st v ≤ T
  rl : ∀ v, R v ≤ r
  out : s.out = -1 ∨ ∃ v, v < n ∧ s.out = (v : Int) ∧ R v = r

theorem inv_step {n : Nat} {bs : List Ed} (hok : okE n bs) {r p : Nat} (hr : 1 ≤ r) {s : Rx} {T : Nat} {st R : Nat → Nat} (h : Inv n bs r p s T st R) {b : Ed} (hb : bs[p]? = some b) : ∃ T' st' R', Inv n bs r (p + 1) (rstep s p b) T' st' R' := by
  obtain ⟨hx, hy⟩ := hok b (List.mem_of_getElem? hb)
  unfold rstep
  by_cases hc : gd s.d b.y + b.m < gd s.d b.x
  · rw [if_pos hc]
    have hxl : b.x < s.d.length := by rw [h.dl]; exact hx
    have hxl2 : b.x < s.l.length := by rw [h.ll]; exact hx
    have hRy : r - 1 ≤ R b.y := by
      rcases h.sat p b hb with h1 | h1
      · omega
      · rw [if_neg (Nat.lt_irrefl p)] at h1; exact h1
    refine ⟨T + 1, fun v => if v = b.x then T + 1 else st v, fun v => if v = b.x then r else R v, ?_⟩
    refine ⟨by simp [h.dl], by simp [h.ll], ?_, ?_, ?_, ?_, .inr ⟨b.x, hx, rfl, by simp⟩⟩
    · intro v hv hRv
      by_cases hvx : v = b.x
      · subst hvx
        refine ⟨p, b, gd_same _ _ _ hxl2, hb, rfl, ?_⟩
        simp only [if_true, gd_same _ _ _ hxl]
        by_cases hyx : b.y = b.x
        · rw [hyx, gd_same _ _ _ hxl]
          rw [hyx] at hc
          simp only [if_true]
          exact ⟨by omega, fun _ => by omega, by omega⟩
        · rw [gd_ne _ _ (Ne.symm hyx)]
          simp only [if_neg hyx]
          refine ⟨Int.le_refl _, fun h5 => ?_, by omega⟩
          have := h.stl b.y
          omega
      · simp only [if_neg hvx] at hRv ⊢
        obtain ⟨i, c, h1, h2, h3, h4, h5, h6⟩ := h.last v hv hRv
        refine ⟨i, c, by rw [gd_ne _ _ (Ne.symm hvx)]; exact h1, h2, h3, ?_⟩
        rw [gd_ne _ _ (Ne.symm hvx)]
        by_cases hyx : c.y = b.x
        · rw [hyx] at h4 h5 h6 ⊢
          rw [gd_same _ _ _ hxl]
          simp only [if_true]
          have := h.rl v
          exact ⟨by omega, fun _ => by omega, by omega⟩
        · rw [gd_ne _ _ (Ne.symm hyx)]
          simp only [if_neg hyx]
          exact ⟨h4, h5, h6⟩
    · intro j c hj
      by_cases hyx : c.y = b.x
      · right
        simp only [hyx, if_true]
        split <;> omega
      · rw [gd_ne _ _ (Ne.symm hyx)]
        simp only [if_neg hyx]
        by_cases hjp : j = p
        · subst hjp
          rw [hb] at hj
          injection hj with hj
          subst hj
          left
          rw [gd_same _ _ _ hxl]
          exact Int.le_refl _
        · have hif : (if j < p + 1 then r else r - 1) = (if j < p then r else r - 1) := by
            by_cases h1 : j < p
            · rw [if_pos h1, if_pos (by omega)]
            · rw [if_neg h1, if_neg (by omega)]
          rw [hif]
          rcases h.sat j c hj with h1 | h1
          · left
            by_cases hcx : c.x = b.x
            · rw [hcx] at h1 ⊢
              rw [gd_same _ _ _ hxl]
              omega
            · rw [gd_ne _ _ (Ne.symm hcx)]
              exact h1
          · exact .inr h1
    · intro v
      by_cases hvx : v = b.x
      · simp only [hvx, if_true]; exact Nat.le_refl _
      · simp only [if_neg hvx]; have := h.stl v; omega
    · intro v
      by_cases hvx : v = b.x
      · simp only [hvx, if_true]; exact Nat.le_refl _
      · simp only [if_neg hvx]; exact h.rl v
  · rw [if_neg hc]
    refine ⟨T, st, R, h.dl, h.ll, h.last, ?_, h.stl, h.rl, h.out⟩
    intro j c hj
    by_cases hjp : j = p
    · subst hjp
      rw [hb] at hj
      injection hj with hj
      subst hj
      left; omega
    · have hif : (if j < p + 1 then r else r - 1) = (if j < p then r else r - 1) := by
        by_cases h1 : j < p
        · rw [if_pos h1, if_pos (by omega)]
        · rw [if_neg h1, if_neg (by omega)]
      rw [hif]
      exact h.sat j c hj

theorem inv_relax {n : Nat} {bs : List Ed} (hok : okE n bs) {r : Nat} (hr : 1 ≤ r) {s : Rx} {T : Nat} {st R : Nat → Nat} (h : Inv n bs r 0 s T st R) : ∀ p, p ≤ bs.length → ∃ T' st' R', Inv n bs r p (relaxK bs s p) T' st' R' := by
  intro p
  induction p with
  | zero => intro _; exact ⟨T, st, R, h⟩
  | succ p ih =>
    intro hp
    obtain ⟨T1, st1, R1, h1⟩ := ih (by omega)
    have hb := List.getElem?_eq_getElem (l := bs) (i := p) (by omega)
    rw [relaxK_succ hb]
    exact inv_step hok hr h1 hb

theorem inv_runs {n : Nat} {bs : List Ed} (hok : okE n bs) : ∀ r, ∃ T st R, Inv n bs (r + 1) bs.length (runs n bs (r + 1)) T st R := by
  intro r
  induction r with
  | zero =>
    have h0 : Inv n bs 1 0 ⟨(rinit n).d, (rinit n).l, -1⟩ 0 (fun _ => 0) (fun _ => 0) := by
      refine ⟨by simp [rinit], by simp [rinit], fun v _ h => by omega, fun j b _ => .inr (by simp), fun _ => Nat.le_refl _, fun _ => by omega, .inl rfl⟩
    exact inv_relax hok (Nat.le_refl _) h0 _ (Nat.le_refl _)
  | succ r ih =>
    obtain ⟨T, st, R, h⟩ := ih
    have h0 : Inv n bs (r + 1 + 1) 0 ⟨(runs n bs (r + 1)).d, (runs n bs (r + 1)).l, -1⟩ T st R := by
      refine ⟨h.dl, h.ll, h.last, ?_, h.stl, fun v => Nat.le_succ_of_le (h.rl v), .inl rfl⟩
      intro j b hj
      rcases h.sat j b hj with h1 | h1
      · exact .inl h1
      · right
        rw [if_pos (List.getElem?_eq_some_iff.1 hj).1] at h1
        simp only [Nat.not_lt_zero, if_false]
        omega
    exact inv_relax hok (by omega) h0 _ (Nat.le_refl _)

/-! ### the cycle of last bounds -/
def lastE (bs : List Ed) (l : List Int) (v : Nat) : Option Ed := bs[(gd l v).toNat]?
def nxt (bs : List Ed) (l : List Int) (v : Nat) : Nat := match lastE bs l v with
  | some b => b.y
  | none => 0
def back (bs : List Ed) (l : List Int) (v : Nat) : Nat → Nat
  | 0 => v
  | k + 1 => nxt bs l (back bs l v k)
theorem back_add (bs : List Ed) (l : List Int) (v a : Nat) : ∀ b, back bs l v (a + b) = back bs l (back bs l v a) b := by
  intro b
  induction b with
  | zero => rfl
  | succ b ih =>
    have h : back bs l v (a + (b + 1)) = nxt bs l (back bs l v (a + b)) := rfl
    rw [h, ih]; rfl

theorem pigeon : ∀ (N : Nat) (f : Nat → Nat), (∀ k, k ≤ N → f k < N) → ∃ i j, i < j ∧ j ≤ N ∧ f i = f j := by
  intro N
  induction N with
  | zero => intro f h; have := h 0 (Nat.le_refl _); omega
  | succ N ih =>
    intro f h
    by_cases he : ∃ i, i ≤ N ∧ f i = f (N + 1)
    · obtain ⟨i, h1, h2⟩ := he
      exact ⟨i, N + 1, by omega, Nat.le_refl _, h2⟩
    · have hne : ∀ i, i ≤ N → f i ≠ f (N + 1) := fun i hi e => he ⟨i, hi, e⟩
      by_cases hN : f (N + 1) = N
      · obtain ⟨i, j, h1, h2, h3⟩ := ih f (fun k hk => by
          have h1 := h k (by omega)
          have h2 := hne k hk
          omega)
        exact ⟨i, j, h1, by omega, h3⟩
      · have hl := h (N + 1) (Nat.le_refl _)
        obtain ⟨i, j, h1, h2, h3⟩ := ih (fun k => if f k = N then f (N + 1) else f k) (fun k hk => by
          have h1 := h k (by omega)
          by_cases h4 : f k = N
          · simp only [h4, if_true]; omega
          · simp only [if_neg h4]; omega)
        refine ⟨i, j, h1, by omega, ?_⟩
        have hi := hne i (by omega)
        have hj := hne j (by omega)
        by_cases hfi : f i = N
        · by_cases hfj : f j = N
          · omega
          · simp only [hfi, if_true, if_neg hfj] at h3; exact absurd h3.symm hj
        · by_cases hfj : f j = N
          · simp only [hfj, if_true, if_neg hfi] at h3; exact absurd h3 hi
          · simp only [if_neg hfi, if_neg hfj] at h3; exact h3

/-- a contradiction: unknowns f 0, f 1, .. along the last bounds, back at f 0 behind L of them -/
structure Cyc (n : Nat) (bs : List Ed) (l : List Int) (v0 L : Nat) : Prop where
  pos : 1 ≤ L
  le : L ≤ n
  home : back bs l v0 L = v0
  away : ∀ k, 1 ≤ k → k < L → back bs l v0 k ≠ v0
  edge : ∀ k, ∃ (i : Nat) (b : Ed), back bs l v0 k < n ∧ gd l (back bs l v0 k) = (i : Int) ∧ bs[i]? = some b ∧ b.x = back bs l v0 k ∧ b.y = back bs l v0 (k + 1)

def cycSum (bs : List Ed) (l : List Int) (v : Nat) : Nat → Int
  | 0 => 0
  | k + 1 => cycSum bs l v k + (match lastE bs l (back bs l v k) with | some b => b.m | none => 0)

/-- the unknown from which the contradiction is read -/
def cycFrom (n : Nat) (bs : List Ed) : Nat := back bs (runs n bs (n + 1)).l (runs n bs (n + 1)).out.toNat n

theorem lastE_of {bs : List Ed} {l : List Int} {v i : Nat} {b : Ed} (h : gd l v = (i : Int)) (hb : bs[i]? = some b) : lastE bs l v = some b := by unfold lastE; rw [h]; exact hb
theorem nxt_of {bs : List Ed} {l : List Int} {v i : Nat} {b : Ed} (h : gd l v = (i : Int)) (hb : bs[i]? = some b) : nxt bs l v = b.y := by unfold nxt; rw [lastE_of h hb]

/-- the first steps back, from the unknown that was improved last -/
theorem back_ok {n : Nat} {bs : List Ed} (hok : okE n bs) {r : Nat} {s : Rx} {T : Nat} {st R : Nat → Nat} (h : Inv n bs r bs.length s T st R) {v : Nat} (hv : v < n) (hR : R v = r) : ∀ k, k < r → back bs s.l v k < n ∧ r ≤ R (back bs s.l v k) + k := by
  intro k
  induction k with
  | zero => intro _; exact ⟨hv, by simp only [back]; omega⟩
  | succ k ih =>
    intro hk
    obtain ⟨h1, h2⟩ := ih (by omega)
    obtain ⟨i, b, e1, e2, e3, _, _, e4⟩ := h.last _ h1 (by omega)
    have hn : back bs s.l v (k + 1) = b.y := nxt_of e1 e2
    rw [hn]
    exact ⟨(hok b (List.mem_of_getElem? e2)).2, by omega⟩

theorem cyc_of {n : Nat} {bs : List Ed} (hok : okE n bs) (hf : feas n bs = false) :
    (∃ v, v < n ∧ (runs n bs (n + 1)).out = (v : Int) ∧ ∀ k, k < n → ∃ (i : Nat) (b : Ed), back bs (runs n bs (n + 1)).l v k < n ∧ gd (runs n bs (n + 1)).l (back bs (runs n bs (n + 1)).l v k) = (i : Int) ∧ bs[i]? = some b ∧ b.y = back bs (runs n bs (n + 1)).l v (k + 1)) ∧
    ∃ L, Cyc n bs (runs n bs (n + 1)).l (cycFrom n bs) L ∧ cycSum bs (runs n bs (n + 1)).l (cycFrom n bs) L < 0 := by
  obtain ⟨T, st, R, h⟩ := inv_runs hok n
  have ho : (runs n bs (n + 1)).out ≠ -1 := by unfold feas at hf; simpa using hf
  obtain ⟨v, hv, hvo, hRv⟩ : ∃ v, v < n ∧ (runs n bs (n + 1)).out = (v : Int) ∧ R v = n + 1 := by
    rcases h.out with h1 | h1
    · exact absurd h1 ho
    · exact h1
  have hfr : cycFrom n bs = back bs (runs n bs (n + 1)).l v n := by unfold cycFrom; rw [hvo]; rfl
  rw [hfr]
  generalize hs : runs n bs (n + 1) = s at h hvo
  have hbk := back_ok hok h hv hRv
  have hed : ∀ k, k ≤ n → ∃ (i : Nat) (b : Ed), gd s.l (back bs s.l v k) = (i : Int) ∧ bs[i]? = some b ∧ b.x = back bs s.l v k ∧ b.y = back bs s.l v (k + 1) ∧ gd s.d b.y + b.m ≤ gd s.d b.x ∧ (st b.x ≤ st b.y → gd s.d b.y + b.m < gd s.d b.x) := by
    intro k hk
    obtain ⟨h1, h2⟩ := hbk k (by omega)
    obtain ⟨i, b, e1, e2, e3, e4, e5, _⟩ := h.last _ h1 (by omega)
    exact ⟨i, b, e1, e2, e3, (nxt_of e1 e2).symm, by rw [e3]; exact e4, by rw [e3]; exact e5⟩
  refine ⟨⟨v, hv, hvo, fun k hk => ?_⟩, ?_⟩
  · obtain ⟨i, b, e1, e2, _, e4, _⟩ := hed k (by omega)
    exact ⟨i, b, (hbk k (by omega)).1, e1, e2, e4⟩
  obtain ⟨i, j, hij, hjn, he⟩ := pigeon n (back bs s.l v) (fun k hk => (hbk k (by omega)).1)
  -- the steps back repeat
  have hper : ∀ k, i ≤ k → back bs s.l v (k + (j - i)) = back bs s.l v k := by
    intro k hk
    have h1 := back_add bs s.l v j (k - i)
    have h2 := back_add bs s.l v i (k - i)
    rw [show j + (k - i) = k + (j - i) by omega] at h1
    rw [show i + (k - i) = k by omega] at h2
    rw [h1, h2, he]
  -- every step back is one of the first n + 1
  have hlow : ∀ k, ∃ k', k' ≤ n ∧ back bs s.l v k = back bs s.l v k' ∧ back bs s.l v (k + 1) = back bs s.l v (k' + 1) := by
    intro k
    induction k using Nat.strongRecOn with
    | ind k ih =>
      by_cases hk : k ≤ n
      · exact ⟨k, hk, rfl, rfl⟩
      · obtain ⟨k', h1, h2, h3⟩ := ih (k - (j - i)) (by omega)
        refine ⟨k', h1, ?_, ?_⟩
        · rw [← h2, ← hper (k - (j - i)) (by omega)]; congr 1; omega
        · rw [← h3, ← hper (k - (j - i) + 1) (by omega)]; congr 1; omega
  have hedge : ∀ k, ∃ (i : Nat) (b : Ed), back bs s.l v k < n ∧ gd s.l (back bs s.l v k) = (i : Int) ∧ bs[i]? = some b ∧ b.x = back bs s.l v k ∧ b.y = back bs s.l v (k + 1) ∧ gd s.d b.y + b.m ≤ gd s.d b.x ∧ (st b.x ≤ st b.y → gd s.d b.y + b.m < gd s.d b.x) := by
    intro k
    obtain ⟨k', h1, h2, h3⟩ := hlow k
    obtain ⟨i, b, e1, e2, e3, e4, e5, e6⟩ := hed k' h1
    exact ⟨i, b, by rw [h2]; exact (hbk k' (by omega)).1, by rw [h2]; exact e1, e2, by rw [h2]; exact e3, by rw [h3]; exact e4, e5, e6⟩
  have hsh : ∀ k, back bs s.l (back bs s.l v n) k = back bs s.l v (n + k) := fun k => (back_add bs s.l v n k).symm
  obtain ⟨L, hL1, hLn, hLh, hLa⟩ : ∃ L, 1 ≤ L ∧ L ≤ n ∧ back bs s.l v (n + L) = back bs s.l v n ∧ ∀ k, 1 ≤ k → k < L → back bs s.l v (n + k) ≠ back bs s.l v n := by
    have key : ∀ P, 1 ≤ P → back bs s.l v (n + P) = back bs s.l v n → ∃ L, 1 ≤ L ∧ L ≤ P ∧ back bs s.l v (n + L) = back bs s.l v n ∧ ∀ k, 1 ≤ k → k < L → back bs s.l v (n + k) ≠ back bs s.l v n := by
      intro P
      induction P using Nat.strongRecOn with
      | ind P ih =>
        intro h1 h2
        by_cases hex : ∃ k, 1 ≤ k ∧ k < P ∧ back bs s.l v (n + k) = back bs s.l v n
        · obtain ⟨k, h3, h4, h5⟩ := hex
          obtain ⟨L, l1, l2, l3, l4⟩ := ih k h4 h3 h5
          exact ⟨L, l1, by omega, l3, l4⟩
        · exact ⟨P, h1, Nat.le_refl _, h2, fun k h3 h4 h5 => hex ⟨k, h3, h4, h5⟩⟩
    obtain ⟨L, l1, l2, l3, l4⟩ := key (j - i) (by omega) (hper n (by omega))
    exact ⟨L, l1, by omega, l3, l4⟩
  refine ⟨L, ⟨hL1, hLn, by rw [hsh]; exact hLh, fun k h1 h2 => by rw [hsh]; exact hLa k h1 h2, fun k => ?_⟩, ?_⟩
  · obtain ⟨i, b, e0, e1, e2, e3, e4, _⟩ := hedge (n + k)
    rw [hsh, hsh]
    exact ⟨i, b, e0, e1, e2, e3, e4⟩
  · -- the sum
    have hsum : ∀ k, cycSum bs s.l (back bs s.l v n) k + gd s.d (back bs s.l v (n + k)) < gd s.d (back bs s.l v n) ∨ (cycSum bs s.l (back bs s.l v n) k + gd s.d (back bs s.l v (n + k)) ≤ gd s.d (back bs s.l v n) ∧ (k = 0 ∨ st (back bs s.l v (n + k)) < st (back bs s.l v n))) := by
      intro k
      induction k with
      | zero => right; exact ⟨by simp [cycSum], .inl rfl⟩
      | succ k ih =>
        obtain ⟨i, b, e0, e1, e2, e3, e4, e5, e6⟩ := hedge (n + k)
        have hc : cycSum bs s.l (back bs s.l v n) (k + 1) = cycSum bs s.l (back bs s.l v n) k + b.m := by
          simp only [cycSum]; rw [hsh, lastE_of e1 e2]
        rw [hc, show n + (k + 1) = n + k + 1 by omega, ← e4]
        rw [← e3] at ih
        rcases ih with h1 | ⟨h1, h2⟩
        · left; omega
        · by_cases hst : st b.x ≤ st b.y
          · left; have := e6 hst; omega
          · right
            refine ⟨by omega, .inr ?_⟩
            rcases h2 with h2 | h2
            · subst h2
              rw [e3] at hst
              simp only [Nat.add_zero] at hst
              omega
            · omega
    rcases hsum L with h1 | ⟨h1, h2⟩
    · rw [hLh] at h1; omega
    · rcases h2 with h2 | h2
      · omega
      · rw [hLh] at h2; omega

/-- no values satisfy bounds with a contradiction -/
theorem cyc_none {n : Nat} {bs : List Ed} {l : List Int} {v L : Nat} (h : Cyc n bs l v L) (hs : cycSum bs l v L < 0) (val : Nat → Int) : ¬ satE val bs := by
  intro hv
  have key : ∀ k, val v - val (back bs l v k) ≤ cycSum bs l v k := by
    intro k
    induction k with
    | zero => simp [back, cycSum]
    | succ k ih =>
      obtain ⟨i, b, e0, e1, e2, e3, e4⟩ := h.edge k
      have hb := hv b (List.mem_of_getElem? e2)
      rw [e3, e4] at hb
      simp only [cycSum]
      rw [lastE_of e1 e2]
      simp only
      omega
  have := key L
  rw [h.home] at this
  omega

/-- a model was found exactly if there is one -/
theorem feas_iff {n : Nat} {bs : List Ed} (hok : okE n bs) : feas n bs = true ↔ ∃ val, satE val bs := by
  constructor
  · intro h; exact ⟨_, feas_sat h⟩
  · rintro ⟨val, hv⟩
    cases hf : feas n bs with
    | true => rfl
    | false =>
      obtain ⟨_, L, hc, hs⟩ := cyc_of hok hf
      exact absurd hv (cyc_none hc hs val)
end Go.Proofs.Ytgecbjjcjemcgaa
