/- Plain laws on tightest bounds: ways along bounds, their least weights; no program in sight. -/
import Derived.Test.YtgecbjjcjemcgaaDbf
namespace Go.Proofs.Ytgecbjjcjemcgaa

def isWay (bs : List Ed) : Nat → List Ed → Nat → Prop
  | x, [], y => x = y
  | x, b :: es, y => b ∈ bs ∧ b.x = x ∧ isWay bs b.y es y
def wt : List Ed → Int
  | [] => 0
  | b :: es => b.m + wt es
def vert (x : Nat) : List Ed → Nat → Nat
  | _, 0 => x
  | [], _ + 1 => x
  | b :: es, i + 1 => vert b.y es i

theorem wt_app : ∀ (a b : List Ed), wt (a ++ b) = wt a + wt b := by
  intro a
  induction a with
  | nil => intro b; simp [wt]
  | cons x a ih => intro b; simp only [List.cons_append, wt, ih]; omega
theorem way_app {bs : List Ed} : ∀ {a b : List Ed} {x v y : Nat}, isWay bs x a v → isWay bs v b y → isWay bs x (a ++ b) y := by
  intro a
  induction a with
  | nil => intro b x v y h1 h2; simp only [isWay] at h1; subst h1; exact h2
  | cons e a ih => intro b x v y h1 h2; exact ⟨h1.1, h1.2.1, ih h1.2.2 h2⟩
theorem vert_zero (x : Nat) (es : List Ed) : vert x es 0 = x := by cases es <;> rfl
theorem way_split {bs : List Ed} : ∀ {es : List Ed} {x y : Nat} (i : Nat), isWay bs x es y → i ≤ es.length → isWay bs x (es.take i) (vert x es i) ∧ isWay bs (vert x es i) (es.drop i) y := by
  intro es
  induction es with
  | nil =>
    intro x y i h hi
    have : i = 0 := by simpa using hi
    subst this
    exact ⟨rfl, h⟩
  | cons e es ih =>
    intro x y i h hi
    cases i with
    | zero => exact ⟨rfl, h⟩
    | succ i =>
      obtain ⟨h1, h2⟩ := ih i h.2.2 (by simpa using hi)
      exact ⟨⟨h.1, h.2.1, h1⟩, h2⟩
theorem vert_drop : ∀ (es : List Ed) (x i j : Nat), i ≤ es.length → vert (vert x es i) (es.drop i) j = vert x es (i + j) := by
  intro es
  induction es with
  | nil =>
    intro x i j hi
    have : i = 0 := by simpa using hi
    subst this
    simp [vert_zero]
  | cons e es ih =>
    intro x i j hi
    cases i with
    | zero => simp [vert_zero]
    | succ i =>
      have := ih e.y i j (by simpa using hi)
      rw [show i + 1 + j = (i + j) + 1 by omega]
      exact this
theorem vert_take : ∀ (es : List Ed) (x i j : Nat), j ≤ i → vert x (es.take i) j = vert x es j ∨ es.length < j := by
  intro es
  induction es with
  | nil => intro x i j _; left; simp
  | cons e es ih =>
    intro x i j hj
    cases j with
    | zero => left; rw [vert_zero, vert_zero]
    | succ j =>
      cases i with
      | zero => omega
      | succ i =>
        rcases ih e.y i j (by omega) with h | h
        · exact .inl h
        · right; simp; omega
theorem way_end {bs : List Ed} : ∀ {es : List Ed} {x y : Nat}, isWay bs x es y → vert x es es.length = y := by
  intro es
  induction es with
  | nil => intro x y h; exact h
  | cons e es ih => intro x y h; exact ih h.2.2
theorem way_lt {n : Nat} {bs : List Ed} (hok : okE n bs) : ∀ {es : List Ed} {x y : Nat} (_ : isWay bs x es y) (_ : x < n) (i : Nat), vert x es i < n := by
  intro es
  induction es with
  | nil => intro x y h hx i; cases i <;> exact hx
  | cons e es ih =>
    intro x y h hx i
    cases i with
    | zero => exact hx
    | succ i => exact ih h.2.2 (hok e h.1).2 i
theorem way_sat {bs : List Ed} {val : Nat → Int} (hv : satE val bs) : ∀ {es : List Ed} {x y : Nat}, isWay bs x es y → val x - val y ≤ wt es := by
  intro es
  induction es with
  | nil => intro x y h; simp only [isWay] at h; subst h; simp [wt]
  | cons e es ih =>
    intro x y h
    have h1 := ih h.2.2
    have h2 := hv e h.1
    rw [h.2.1] at h2
    simp only [wt]
    omega

/-- a way can be made short -/
theorem way_short {n : Nat} {bs : List Ed} (hok : okE n bs) {val : Nat → Int} (hv : satE val bs) {x y : Nat} (hx : x < n) : ∀ (k : Nat) (es : List Ed), es.length ≤ k → isWay bs x es y → ∃ fs, fs.length < n ∧ isWay bs x fs y ∧ wt fs ≤ wt es := by
  intro k
  induction k with
  | zero =>
    intro es hk h
    exact ⟨es, by omega, h, Int.le_refl _⟩
  | succ k ih =>
    intro es hk h
    by_cases hn : es.length < n
    · exact ⟨es, hn, h, Int.le_refl _⟩
    · obtain ⟨i, j, hij, hjn, he⟩ := pigeon n (vert x es) (fun i _ => way_lt hok h hx i)
      obtain ⟨h1, h2⟩ := way_split i h (by omega)
      obtain ⟨h3, h4⟩ := way_split (j - i) h2 (by rw [List.length_drop]; omega)
      rw [vert_drop es x i (j - i) (by omega), show i + (j - i) = j by omega] at h3 h4
      rw [List.drop_drop, show i + (j - i) = j by omega] at h4
      rw [← he] at h3 h4
      have h5 := way_sat hv h3
      have hw1 := wt_app (es.take i) (es.drop i)
      have hw2 := wt_app ((es.drop i).take (j - i)) ((es.drop i).drop (j - i))
      rw [List.take_append_drop] at hw1 hw2
      rw [List.drop_drop, show i + (j - i) = j by omega] at hw2
      obtain ⟨fs, f1, f2, f3⟩ := ih (es.take i ++ es.drop j) (by rw [List.length_append, List.length_take, List.length_drop]; omega) (way_app h1 h4)
      refine ⟨fs, f1, f2, ?_⟩
      rw [wt_app] at f3
      omega

/-- c is the least weight of a way from x to y -/
def Least (bs : List Ed) (x y : Nat) (c : Int) : Prop := (∃ es, isWay bs x es y ∧ wt es = c) ∧ ∀ es, isWay bs x es y → c ≤ wt es
theorem least_unique {bs : List Ed} {x y : Nat} {c d : Int} (h1 : Least bs x y c) (h2 : Least bs x y d) : c = d := by
  obtain ⟨⟨es, e1, e2⟩, e3⟩ := h1
  obtain ⟨⟨fs, f1, f2⟩, f3⟩ := h2
  have := e3 fs f1
  have := f3 es e1
  omega

/-! ### the reference: from one unknown, all bounds again and again -/
structure Tx where
  h : List Bool
  d : List Int
def gb (h : List Bool) (i : Nat) : Bool := h.getD i false
theorem gb_same (h : List Bool) (i : Nat) (v : Bool) (hi : i < h.length) : gb (h.set i v) i = v := by
  unfold gb; rw [List.getD_eq_getElem?_getD, List.getElem?_set_self hi]; rfl
theorem gb_ne (h : List Bool) {i j : Nat} (v : Bool) (hn : i ≠ j) : gb (h.set i v) j = gb h j := by
  unfold gb; rw [List.getD_eq_getElem?_getD, List.getD_eq_getElem?_getD, List.getElem?_set_ne hn]
theorem gb_at {h : List Bool} {i : Nat} (hi : i < h.length) : h[i]? = some (gb h i) := by
  unfold gb; rw [List.getElem?_eq_getElem hi, List.getD_eq_getElem?_getD, List.getElem?_eq_getElem hi]; rfl
def tstep (s : Tx) (b : Ed) : Tx :=
  if gb s.h b.y = true ∧ (gb s.h b.x = false ∨ gd s.d b.y + b.m < gd s.d b.x) then ⟨s.h.set b.x true, s.d.set b.x (gd s.d b.y + b.m)⟩ else s
def trelax (bs : List Ed) (s : Tx) : Nat → Tx
  | 0 => s
  | k + 1 => match bs[k]? with
    | some b => tstep (trelax bs s k) b
    | none => trelax bs s k
def tinit (n y : Nat) : Tx := ⟨(List.replicate n false).set y true, List.replicate n 0⟩
def truns (n : Nat) (bs : List Ed) (y : Nat) : Nat → Tx
  | 0 => tinit n y
  | r + 1 => trelax bs (truns n bs y r) bs.length
/-- the tightest bound of x and y, as the reference computes it -/
def tight (n : Nat) (bs : List Ed) (x y : Nat) : Option Int := if gb (truns n bs y n).h x = true then some (gd (truns n bs y n).d x) else none

theorem trelax_succ {bs : List Ed} {s : Tx} {k : Nat} {b : Ed} (h : bs[k]? = some b) : trelax bs s (k + 1) = tstep (trelax bs s k) b := by simp only [trelax, h]

/-- it has a bound for v that is at most c -/
def Has (s : Tx) (v : Nat) (c : Int) : Prop := gb s.h v = true ∧ gd s.d v ≤ c
structure TInv (n : Nat) (bs : List Ed) (y : Nat) (s : Tx) : Prop where
  hl : s.h.length = n
  dl : s.d.length = n
  way : ∀ v, v < n → gb s.h v = true → ∃ es, isWay bs v es y ∧ wt es = gd s.d v

theorem tstep_inv {n : Nat} {bs : List Ed} (hok : okE n bs) {y : Nat} {s : Tx} (h : TInv n bs y s) {b : Ed} (hb : b ∈ bs) : TInv n bs y (tstep s b) ∧ (∀ v c, Has s v c → Has (tstep s b) v c) ∧ (∀ c, Has s b.y c → Has (tstep s b) b.x (c + b.m)) := by
  obtain ⟨hx, hy⟩ := hok b hb
  have hx1 : b.x < s.h.length := by rw [h.hl]; exact hx
  have hx2 : b.x < s.d.length := by rw [h.dl]; exact hx
  unfold tstep
  by_cases hc : gb s.h b.y = true ∧ (gb s.h b.x = false ∨ gd s.d b.y + b.m < gd s.d b.x)
  · rw [if_pos hc]
    refine ⟨⟨by simp [h.hl], by simp [h.dl], ?_⟩, ?_, ?_⟩
    · intro v hv hg
      by_cases hvx : b.x = v
      · subst hvx
        obtain ⟨es, e1, e2⟩ := h.way b.y hy hc.1
        exact ⟨b :: es, ⟨hb, rfl, e1⟩, by rw [gd_same _ _ _ hx2]; simp only [wt, e2]; omega⟩
      · rw [gb_ne _ _ hvx] at hg
        rw [gd_ne _ _ hvx]
        exact h.way v hv hg
    · intro v c ⟨h1, h2⟩
      by_cases hvx : b.x = v
      · subst hvx
        refine ⟨gb_same _ _ _ hx1, ?_⟩
        rw [gd_same _ _ _ hx2]
        rcases hc.2 with h3 | h3
        · rw [h1] at h3; cases h3
        · omega
      · exact ⟨by rw [gb_ne _ _ hvx]; exact h1, by rw [gd_ne _ _ hvx]; exact h2⟩
    · intro c ⟨_, h2⟩
      exact ⟨gb_same _ _ _ hx1, by rw [gd_same _ _ _ hx2]; omega⟩
  · rw [if_neg hc]
    refine ⟨h, fun _ _ h => h, ?_⟩
    intro c ⟨h1, h2⟩
    by_cases h3 : gb s.h b.x = false
    · exact absurd ⟨h1, .inl h3⟩ hc
    · have h4 : gb s.h b.x = true := by simpa using h3
      refine ⟨h4, ?_⟩
      by_cases h5 : gd s.d b.y + b.m < gd s.d b.x
      · exact absurd ⟨h1, .inr h5⟩ hc
      · omega

theorem trelax_inv {n : Nat} {bs : List Ed} (hok : okE n bs) {y : Nat} {s : Tx} (h : TInv n bs y s) : ∀ k, k ≤ bs.length → TInv n bs y (trelax bs s k) ∧ (∀ v c, Has s v c → Has (trelax bs s k) v c) ∧ (∀ j b c, j < k → bs[j]? = some b → Has s b.y c → Has (trelax bs s k) b.x (c + b.m)) := by
  intro k
  induction k with
  | zero => intro _; exact ⟨h, fun _ _ h => h, fun j b c hj => by omega⟩
  | succ k ih =>
    intro hk
    obtain ⟨h1, h2, h3⟩ := ih (by omega)
    have hb := List.getElem?_eq_getElem (l := bs) (i := k) (by omega)
    rw [trelax_succ hb]
    obtain ⟨g1, g2, g3⟩ := tstep_inv hok h1 (List.mem_of_getElem? hb)
    refine ⟨g1, fun v c hv => g2 v c (h2 v c hv), ?_⟩
    intro j b c hj hjb hc
    rcases Nat.lt_or_eq_of_le (Nat.le_of_lt_succ hj) with h5 | h5
    · exact g2 _ _ (h3 j b c h5 hjb hc)
    · subst h5
      rw [hb] at hjb
      injection hjb with hjb
      subst hjb
      exact g3 c (h2 _ _ hc)

theorem truns_inv {n : Nat} {bs : List Ed} (hok : okE n bs) {y : Nat} (hy : y < n) : ∀ r, TInv n bs y (truns n bs y r) ∧ ∀ es v, es.length ≤ r → isWay bs v es y → Has (truns n bs y r) v (wt es) := by
  intro r
  induction r with
  | zero =>
    refine ⟨⟨by simp [truns, tinit], by simp [truns, tinit], ?_⟩, ?_⟩
    · intro v hv hg
      by_cases hvy : y = v
      · subst hvy
        exact ⟨[], rfl, by simp [wt, truns, tinit, gd, List.getD_eq_getElem?_getD, hv]⟩
      · simp only [truns, tinit] at hg
        rw [gb_ne _ _ hvy] at hg
        simp [gb, List.getD_eq_getElem?_getD, hv] at hg
    · intro es v hes hw
      have : es = [] := List.eq_nil_of_length_eq_zero (by omega)
      subst this
      simp only [isWay] at hw
      subst hw
      refine ⟨gb_same _ _ _ (by simpa using hy), ?_⟩
      simp [wt, truns, tinit, gd, List.getD_eq_getElem?_getD, hy]
  | succ r ih =>
    obtain ⟨h1, h2⟩ := ih
    obtain ⟨g1, g2, g3⟩ := trelax_inv hok h1 bs.length (Nat.le_refl _)
    refine ⟨g1, ?_⟩
    intro es v hes hw
    cases es with
    | nil => exact g2 _ _ (h2 [] v (Nat.zero_le _) hw)
    | cons b es =>
      obtain ⟨w1, w2, w3⟩ := hw
      obtain ⟨j, hj⟩ := List.mem_iff_getElem?.1 w1
      have := g3 j b (wt es) (List.getElem?_eq_some_iff.1 hj).1 hj (h2 es b.y (by simpa using hes) w3)
      rw [w2] at this
      have e : wt (b :: es) = wt es + b.m := by simp only [wt]; omega
      rw [e]
      exact this

/-- what the reference computes is the least weight -/
theorem tight_least {n : Nat} {bs : List Ed} (hok : okE n bs) {val : Nat → Int} (hv : satE val bs) {x y : Nat} (hx : x < n) (hy : y < n) : (∀ c, tight n bs x y = some c → Least bs x y c) ∧ (tight n bs x y = none → ∀ es, ¬ isWay bs x es y) := by
  obtain ⟨h1, h2⟩ := truns_inv hok hy n
  constructor
  · intro c hc
    unfold tight at hc
    by_cases hg : gb (truns n bs y n).h x = true
    · rw [if_pos hg] at hc
      injection hc with hc
      subst hc
      refine ⟨h1.way x hx hg, fun es hw => ?_⟩
      obtain ⟨fs, f1, f2, f3⟩ := way_short hok hv hx _ es (Nat.le_refl _) hw
      have := (h2 fs x (by omega) f2).2
      omega
    · rw [if_neg hg] at hc; cases hc
  · intro hc es hw
    obtain ⟨fs, f1, f2, f3⟩ := way_short hok hv hx _ es (Nat.le_refl _) hw
    have := (h2 fs x (by omega) f2).1
    unfold tight at hc
    rw [if_pos this] at hc
    cases hc
theorem tight_of_least {n : Nat} {bs : List Ed} (hok : okE n bs) {val : Nat → Int} (hv : satE val bs) {x y : Nat} (hx : x < n) (hy : y < n) {c : Int} (h : Least bs x y c) : tight n bs x y = some c := by
  obtain ⟨h1, h2⟩ := tight_least hok hv hx hy
  cases ht : tight n bs x y with
  | none => obtain ⟨⟨es, e1, _⟩, _⟩ := h; exact absurd e1 (h2 ht es)
  | some d => rw [least_unique (h1 d ht) h]
theorem tight_of_none {n : Nat} {bs : List Ed} (hok : okE n bs) {val : Nat → Int} (hv : satE val bs) {x y : Nat} (hx : x < n) (hy : y < n) (h : ∀ es, ¬ isWay bs x es y) : tight n bs x y = none := by
  obtain ⟨h1, _⟩ := tight_least hok hv hx hy
  cases ht : tight n bs x y with
  | none => rfl
  | some d => obtain ⟨⟨es, e1, _⟩, _⟩ := h1 d ht; exact absurd e1 (h es)
end Go.Proofs.Ytgecbjjcjemcgaa
