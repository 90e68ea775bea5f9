/- Plain laws on the table of tightest bounds that is improved over one unknown after another: it holds the least weights; no program in sight. -/
import Derived.Test.YtgecbjjcjemcgaaDpath
namespace Go.Proofs.Ytgecbjjcjemcgaa

abbrev Tab := Nat → Nat → Option Int
def bet (o : Option Int) (m : Int) : Option Int := match o with
  | none => some m
  | some c => if m < c then some m else some c
def imp (T : Tab) (x y : Nat) (m : Int) : Tab := fun u v => if u = x ∧ v = y then bet (T x y) m else T u v
def fw0 : Tab := fun u v => if u = v then some 0 else none
def impK (bs : List Ed) : Nat → Tab
  | 0 => fw0
  | k + 1 => match bs[k]? with
    | some b => imp (impK bs k) b.x b.y b.m
    | none => impK bs k
def stepT (T : Tab) (k x y : Nat) : Tab := match T x k, T k y with
  | some a, some b => imp T x y (a + b)
  | _, _ => T
def relY (T : Tab) (k x : Nat) : Nat → Tab
  | 0 => T
  | y + 1 => stepT (relY T k x y) k x y
def relX (n : Nat) (T : Tab) (k : Nat) : Nat → Tab
  | 0 => T
  | x + 1 => relY (relX n T k x) k x n
def relK (n : Nat) (T : Tab) : Nat → Tab
  | 0 => T
  | k + 1 => relX n (relK n T k) k n
def fw (n : Nat) (bs : List Ed) : Tab := relK n (impK bs bs.length) n

/-- T' has what T has, or better -/
def Bet (T' T : Tab) : Prop := ∀ u v c, T u v = some c → ∃ c', T' u v = some c' ∧ c' ≤ c
theorem Bet.refl (T : Tab) : Bet T T := fun _ _ c h => ⟨c, h, Int.le_refl _⟩
theorem Bet.trans {A B C : Tab} (h1 : Bet A B) (h2 : Bet B C) : Bet A C := fun u v c h => by
  obtain ⟨c1, e1, e2⟩ := h2 u v c h
  obtain ⟨c2, e3, e4⟩ := h1 u v c1 e1
  exact ⟨c2, e3, by omega⟩
theorem bet_some (o : Option Int) (m : Int) : ∃ c, bet o m = some c ∧ c ≤ m ∧ (∀ d, o = some d → c ≤ d) ∧ (c = m ∨ o = some c) := by
  cases o with
  | none => exact ⟨m, rfl, Int.le_refl _, fun d h => (by cases h), .inl rfl⟩
  | some d =>
    unfold bet
    by_cases h : m < d
    · exact ⟨m, if_pos h, Int.le_refl _, fun e he => by injection he with he; omega, .inl rfl⟩
    · exact ⟨d, if_neg h, by omega, fun e he => by injection he with he; omega, .inr rfl⟩
theorem imp_at (T : Tab) (x y : Nat) (m : Int) : ∃ c, imp T x y m x y = some c ∧ c ≤ m ∧ (c = m ∨ T x y = some c) := by
  obtain ⟨c, h1, h2, _, h4⟩ := bet_some (T x y) m
  exact ⟨c, by unfold imp; rw [if_pos ⟨rfl, rfl⟩]; exact h1, h2, h4⟩
theorem imp_bet (T : Tab) (x y : Nat) (m : Int) : Bet (imp T x y m) T := fun u v c h => by
  unfold imp
  by_cases hu : u = x ∧ v = y
  · obtain ⟨rfl, rfl⟩ := hu
    rw [if_pos ⟨rfl, rfl⟩]
    obtain ⟨c', h1, _, h3, _⟩ := bet_some (T u v) m
    exact ⟨c', h1, h3 c h⟩
  · rw [if_neg hu]; exact ⟨c, h, Int.le_refl _⟩
theorem imp_from {T : Tab} {x y : Nat} {m : Int} {u v : Nat} {c : Int} (h : imp T x y m u v = some c) : T u v = some c ∨ (u = x ∧ v = y ∧ c = m) := by
  unfold imp at h
  by_cases hu : u = x ∧ v = y
  · obtain ⟨rfl, rfl⟩ := hu
    rw [if_pos ⟨rfl, rfl⟩] at h
    obtain ⟨c', h1, _, _, h4⟩ := bet_some (T u v) m
    rw [h1] at h
    injection h with h
    subst h
    rcases h4 with h4 | h4
    · exact .inr ⟨rfl, rfl, h4⟩
    · exact .inl h4
  · rw [if_neg hu] at h; exact .inl h
theorem stepT_some {T : Tab} {k x y : Nat} {a b : Int} (ha : T x k = some a) (hb : T k y = some b) : stepT T k x y = imp T x y (a + b) := by unfold stepT; rw [ha, hb]
theorem stepT_none1 {T : Tab} {k x y : Nat} (ha : T x k = none) : stepT T k x y = T := by unfold stepT; rw [ha]
theorem stepT_none2 {T : Tab} {k x y : Nat} (hb : T k y = none) : stepT T k x y = T := by unfold stepT; rw [hb]; cases T x k <;> rfl
theorem stepT_cases (T : Tab) (k x y : Nat) : (∃ a b, T x k = some a ∧ T k y = some b ∧ stepT T k x y = imp T x y (a + b)) ∨ stepT T k x y = T := by
  cases ha : T x k with
  | none => exact .inr (stepT_none1 ha)
  | some a =>
    cases hb : T k y with
    | none => exact .inr (stepT_none2 hb)
    | some b => exact .inl ⟨a, b, rfl, rfl, stepT_some ha hb⟩

/-- what holds of every table on the way holds of the last -/
theorem relY_ind {P : Tab → Prop} {k x : Nat} (hs : ∀ T y, P T → P (stepT T k x y)) {T : Tab} (h : P T) : ∀ y, P (relY T k x y) := by
  intro y
  induction y with
  | zero => exact h
  | succ y ih => exact hs _ _ ih
theorem relX_ind {P : Tab → Prop} {n k : Nat} (hs : ∀ T x y, P T → P (stepT T k x y)) {T : Tab} (h : P T) : ∀ x, P (relX n T k x) := by
  intro x
  induction x with
  | zero => exact h
  | succ x ih => exact relY_ind (fun T y => hs T x y) ih n
theorem relK_ind {P : Tab → Prop} {n : Nat} (hs : ∀ T k x y, P T → P (stepT T k x y)) {T : Tab} (h : P T) : ∀ k, P (relK n T k) := by
  intro k
  induction k with
  | zero => exact h
  | succ k ih => exact relX_ind (fun T x y => hs T k x y) ih n

/-! ### each entry is the weight of a way -/
def Ways (bs : List Ed) (T : Tab) : Prop := ∀ u v c, T u v = some c → ∃ es, isWay bs u es v ∧ wt es = c
theorem ways_step {bs : List Ed} (T : Tab) (k x y : Nat) (h : Ways bs T) : Ways bs (stepT T k x y) := by
  rcases stepT_cases T k x y with ⟨a, b, ha, hb, he⟩ | he
  · rw [he]
    intro u v c hc
    rcases imp_from hc with h1 | ⟨rfl, rfl, rfl⟩
    · exact h u v c h1
    · obtain ⟨es, e1, e2⟩ := h _ _ _ ha
      obtain ⟨fs, f1, f2⟩ := h _ _ _ hb
      exact ⟨es ++ fs, way_app e1 f1, by rw [wt_app]; omega⟩
  · rw [he]; exact h
theorem ways_bounds {bs : List Ed} : ∀ k, Ways bs (impK bs k) := by
  intro k
  induction k with
  | zero =>
    intro u v c hc
    simp only [impK, fw0] at hc
    by_cases h : u = v
    · rw [if_pos h] at hc; injection hc with hc; exact ⟨[], h, hc⟩
    · rw [if_neg h] at hc; cases hc
  | succ k ih =>
    cases hb : bs[k]? with
    | none => simp only [impK, hb]; exact ih
    | some b =>
      simp only [impK, hb]
      intro u v c hc
      rcases imp_from hc with h1 | ⟨rfl, rfl, rfl⟩
      · exact ih u v c h1
      · exact ⟨[b], ⟨List.mem_of_getElem? hb, rfl, rfl⟩, by simp [wt]⟩

theorem bet_step (T : Tab) (k x y : Nat) : Bet (stepT T k x y) T := by
  rcases stepT_cases T k x y with ⟨a, b, _, _, he⟩ | he
  · rw [he]; exact imp_bet _ _ _ _
  · rw [he]; exact Bet.refl _
theorem bet_relY (T : Tab) (k x : Nat) : ∀ y, Bet (relY T k x y) T := by
  intro y
  induction y with
  | zero => exact Bet.refl _
  | succ y ih => exact (bet_step _ _ _ _).trans ih
theorem bet_relX (n : Nat) (T : Tab) (k : Nat) : ∀ x, Bet (relX n T k x) T := by
  intro x
  induction x with
  | zero => exact Bet.refl _
  | succ x ih => exact (bet_relY _ _ _ _).trans ih
theorem relY_done (T : Tab) (k x : Nat) {a b : Int} : ∀ y y', y' < y → T x k = some a → T k y' = some b → ∃ c, relY T k x y x y' = some c ∧ c ≤ a + b := by
  intro y
  induction y with
  | zero => intro y' h; omega
  | succ y ih =>
    intro y' hy ha hb
    rcases Nat.lt_or_eq_of_le (Nat.le_of_lt_succ hy) with h1 | h1
    · obtain ⟨c, e1, e2⟩ := ih y' h1 ha hb
      obtain ⟨c', e3, e4⟩ := bet_step (relY T k x y) k x y _ _ _ e1
      exact ⟨c', e3, by omega⟩
    · subst h1
      obtain ⟨a', p1, p2⟩ := bet_relY T k x y' _ _ _ ha
      obtain ⟨b', q1, q2⟩ := bet_relY T k x y' _ _ _ hb
      obtain ⟨c, e1, e2, _⟩ := imp_at (relY T k x y') x y' (a' + b')
      refine ⟨c, ?_, by omega⟩
      simp only [relY]
      rw [stepT_some p1 q1]
      exact e1
theorem relX_done (n : Nat) (T : Tab) (k : Nat) {a b : Int} : ∀ x x' y', x' < x → y' < n → T x' k = some a → T k y' = some b → ∃ c, relX n T k x x' y' = some c ∧ c ≤ a + b := by
  intro x
  induction x with
  | zero => intro x' y' h; omega
  | succ x ih =>
    intro x' y' hx hy ha hb
    rcases Nat.lt_or_eq_of_le (Nat.le_of_lt_succ hx) with h1 | h1
    · obtain ⟨c, e1, e2⟩ := ih x' y' h1 hy ha hb
      obtain ⟨c', e3, e4⟩ := bet_relY (relX n T k x) k x n _ _ _ e1
      exact ⟨c', e3, by omega⟩
    · subst h1
      obtain ⟨a', p1, p2⟩ := bet_relX n T k x' _ _ _ ha
      obtain ⟨b', q1, q2⟩ := bet_relX n T k x' _ _ _ hb
      obtain ⟨c, e1, e2⟩ := relY_done (relX n T k x') k x' n y' hy p1 q1
      exact ⟨c, e1, by omega⟩

/-! ### it has every way over the first unknowns -/
def Full (n : Nat) (bs : List Ed) (k : Nat) (T : Tab) : Prop := ∀ es u v, u < n → v < n → isWay bs u es v → (∀ i, 0 < i → i < es.length → vert u es i < k) → ∃ c, T u v = some c ∧ c ≤ wt es

theorem full_bounds {n : Nat} {bs : List Ed} : Full n bs 0 (impK bs bs.length) := by
  have mono : ∀ j k, j ≤ k → Bet (impK bs k) (impK bs j) := by
    intro j k hjk
    induction k with
    | zero => obtain rfl : j = 0 := by omega
              exact Bet.refl _
    | succ k ih =>
      rcases Nat.lt_or_eq_of_le hjk with h1 | h1
      · have h2 := ih (by omega)
        cases hb : bs[k]? with
        | none => simp only [impK, hb]; exact h2
        | some b => simp only [impK, hb]; exact (imp_bet _ _ _ _).trans h2
      · subst h1; exact Bet.refl _
  intro es u v hu hv hw hi
  cases es with
  | nil =>
    simp only [isWay] at hw
    subst hw
    exact mono 0 bs.length (Nat.zero_le _) u u 0 (by simp [impK, fw0])
  | cons b es =>
    cases es with
    | nil =>
      obtain ⟨w1, w2, w3⟩ := hw
      simp only [isWay] at w3
      subst w2 w3
      obtain ⟨j, hj⟩ := List.mem_iff_getElem?.1 w1
      have hjl := (List.getElem?_eq_some_iff.1 hj).1
      obtain ⟨c, e1, e2, _⟩ := imp_at (impK bs j) b.x b.y b.m
      obtain ⟨c', e3, e4⟩ := mono (j + 1) bs.length hjl b.x b.y c (by simp only [impK, hj]; exact e1)
      exact ⟨c', e3, by simp only [wt]; omega⟩
    | cons b2 es =>
      have := hi 1 (by omega) (by simp)
      omega

/-- a way from k: what the table has of k serves, however often it comes by k -/
theorem full_from {n : Nat} {bs : List Ed} {val : Nat → Int} (hs : satE val bs) {k : Nat} (hk : k < n) {T : Tab} (h : Full n bs k T) : ∀ (m : Nat) (es : List Ed) (v : Nat), es.length ≤ m → v < n → isWay bs k es v → (∀ i, 0 < i → i < es.length → vert k es i < k + 1) → ∃ c, T k v = some c ∧ c ≤ wt es := by
  intro m
  induction m with
  | zero =>
    intro es v hl hv hw hi
    exact h es k v hk hv hw (fun i h1 h2 => by omega)
  | succ m ih =>
    intro es v hl hv hw hi
    by_cases hex : ∃ i, 0 < i ∧ i < es.length ∧ vert k es i = k
    · obtain ⟨i, h1, h2, h3⟩ := hex
      obtain ⟨w1, w2⟩ := way_split i hw (by omega)
      rw [h3] at w1 w2
      have hc := way_sat hs w1
      have hwt := wt_app (es.take i) (es.drop i)
      rw [List.take_append_drop] at hwt
      obtain ⟨c, e1, e2⟩ := ih (es.drop i) v (by rw [List.length_drop]; omega) hv w2 (fun j hj1 hj2 => by
        have hvd := vert_drop es k i j (by omega)
        rw [h3] at hvd
        rw [hvd]
        rw [List.length_drop] at hj2
        exact hi (i + j) (by omega) (by omega))
      exact ⟨c, e1, by omega⟩
    · exact h es k v hk hv hw (fun i h1 h2 => by
        have h3 := hi i h1 h2
        have h4 : vert k es i ≠ k := fun e => hex ⟨i, h1, h2, e⟩
        omega)

theorem full_phase {n : Nat} {bs : List Ed} {val : Nat → Int} (hs : satE val bs) {k : Nat} (hk : k < n) {T : Tab} (h : Full n bs k T) : Full n bs (k + 1) (relX n T k n) := by
  intro es u v hu hv hw hi
  by_cases hex : ∃ i, 0 < i ∧ i < es.length ∧ vert u es i = k
  · -- the first time that it comes by k
    have key : ∀ m i, i ≤ m → 0 < i → i < es.length → vert u es i = k → ∃ j, 0 < j ∧ j < es.length ∧ vert u es j = k ∧ ∀ j', 0 < j' → j' < j → vert u es j' ≠ k := by
      intro m
      induction m with
      | zero => intro i h1 h2; omega
      | succ m ih =>
        intro i h1 h2 h3 h4
        by_cases h5 : ∃ j', 0 < j' ∧ j' < i ∧ vert u es j' = k
        · obtain ⟨j', p1, p2, p3⟩ := h5
          exact ih j' (by omega) p1 (by omega) p3
        · exact ⟨i, h2, h3, h4, fun j' p1 p2 p3 => h5 ⟨j', p1, p2, p3⟩⟩
    obtain ⟨i0, g1, g2, g3⟩ := hex
    obtain ⟨i, h1, h2, h3, h4⟩ := key i0 i0 (Nat.le_refl _) g1 g2 g3
    obtain ⟨w1, w2⟩ := way_split i hw (by omega)
    rw [h3] at w1 w2
    have hwt := wt_app (es.take i) (es.drop i)
    rw [List.take_append_drop] at hwt
    obtain ⟨a, a1, a2⟩ := h (es.take i) u k hu hk w1 (fun j hj1 hj2 => by
      rw [List.length_take] at hj2
      have h5 := hi j hj1 (by omega)
      have h6 := h4 j hj1 (by omega)
      rcases vert_take es u i j (by omega) with h7 | h7
      · rw [h7]; omega
      · omega)
    obtain ⟨b, b1, b2⟩ := full_from hs hk h (es.drop i).length (es.drop i) v (Nat.le_refl _) hv w2 (fun j hj1 hj2 => by
      have hvd := vert_drop es u i j (by omega)
      rw [h3] at hvd
      rw [hvd]
      rw [List.length_drop] at hj2
      exact hi (i + j) (by omega) (by omega))
    obtain ⟨c, c1, c2⟩ := relX_done n T k n u v hu hv a1 b1
    exact ⟨c, c1, by omega⟩
  · obtain ⟨c, c1, c2⟩ := h es u v hu hv hw (fun i h1 h2 => by
      have h3 := hi i h1 h2
      have h4 : vert u es i ≠ k := fun e => hex ⟨i, h1, h2, e⟩
      omega)
    obtain ⟨c', c3, c4⟩ := bet_relX n T k n u v c c1
    exact ⟨c', c3, by omega⟩

theorem full_all {n : Nat} {bs : List Ed} {val : Nat → Int} (hs : satE val bs) : ∀ k, k ≤ n → Full n bs k (relK n (impK bs bs.length) k) := by
  intro k
  induction k with
  | zero => intro _; exact full_bounds
  | succ k ih => intro hk; exact full_phase hs (by omega) (ih (by omega))

/-- the table holds what the reference computes -/
theorem fw_tight {n : Nat} {bs : List Ed} (hok : okE n bs) {val : Nat → Int} (hs : satE val bs) {x y : Nat} (hx : x < n) (hy : y < n) : fw n bs x y = tight n bs x y := by
  have hW : Ways bs (fw n bs) := relK_ind (fun T k x y h => ways_step T k x y h) (ways_bounds _) n
  have hF : Full n bs n (fw n bs) := full_all hs n (Nat.le_refl _)
  cases hf : fw n bs x y with
  | some c =>
    refine (tight_of_least hok hs hx hy ⟨hW x y c hf, fun es hw => ?_⟩).symm
    obtain ⟨c', e1, e2⟩ := hF es x y hx hy hw (fun i _ _ => way_lt hok hw hx i)
    rw [hf] at e1
    injection e1 with e1
    omega
  | none =>
    refine (tight_of_none hok hs hx hy (fun es hw => ?_)).symm
    obtain ⟨c', e1, e2⟩ := hF es x y hx hy hw (fun i _ _ => way_lt hok hw hx i)
    rw [hf] at e1
    cases e1

/-! ### how large the entries are -/
def Up (U : Int) (T : Tab) : Prop := ∀ u v c, T u v = some c → c ≤ U
/-- while k is gone over: the row and the column of k hold at most U, all else at most U + U -/
def UpK (k : Nat) (U : Int) (T : Tab) : Prop := (∀ u v c, T u v = some c → c ≤ U + U) ∧ (∀ u c, T u k = some c → c ≤ U) ∧ (∀ v c, T k v = some c → c ≤ U)
theorem upK_step {k : Nat} {U : Int} (T : Tab) (x y : Nat) (h : UpK k U T) : UpK k U (stepT T k x y) := by
  rcases stepT_cases T k x y with ⟨a, b, ha, hb, he⟩ | he
  · rw [he]
    have h1 := h.2.1 _ _ ha
    have h2 := h.2.2 _ _ hb
    refine ⟨fun u v c hc => ?_, fun u c hc => ?_, fun v c hc => ?_⟩
    · rcases imp_from hc with h3 | ⟨_, _, h3⟩
      · exact h.1 u v c h3
      · omega
    · by_cases hu : u = x ∧ k = y
      · obtain ⟨rfl, rfl⟩ := hu
        obtain ⟨c', e1, e2⟩ := imp_bet T u k (a + b) u k a ha
        rw [e1] at hc
        injection hc with hc
        omega
      · unfold imp at hc; rw [if_neg hu] at hc; exact h.2.1 u c hc
    · by_cases hu : k = x ∧ v = y
      · obtain ⟨rfl, rfl⟩ := hu
        obtain ⟨c', e1, e2⟩ := imp_bet T k v (a + b) k v b hb
        rw [e1] at hc
        injection hc with hc
        omega
      · unfold imp at hc; rw [if_neg hu] at hc; exact h.2.2 v c hc
  · rw [he]; exact h
theorem up_bounds {bs : List Ed} {U : Int} (h0 : 0 ≤ U) (hU : ∀ b ∈ bs, b.m ≤ U) : ∀ k, Up U (impK bs k) := by
  intro k
  induction k with
  | zero =>
    intro u v c hc
    simp only [impK, fw0] at hc
    by_cases h : u = v
    · rw [if_pos h] at hc; injection hc with hc; omega
    · rw [if_neg h] at hc; cases hc
  | succ k ih =>
    cases hb : bs[k]? with
    | none => simp only [impK, hb]; exact ih
    | some b =>
      simp only [impK, hb]
      intro u v c hc
      rcases imp_from hc with h1 | ⟨_, _, h1⟩
      · exact ih u v c h1
      · have := hU b (List.mem_of_getElem? hb); omega
def upTo (U : Int) : Nat → Int
  | 0 => U
  | k + 1 => upTo U k + upTo U k
theorem upTo_pos {U : Int} (h : 0 ≤ U) : ∀ k, 0 ≤ upTo U k := by
  intro k
  induction k with
  | zero => exact h
  | succ k ih => simp only [upTo]; omega
theorem upK_of {U : Int} (h0 : 0 ≤ U) {T : Tab} (h : Up U T) (k : Nat) : UpK k U T := ⟨fun u v c hc => by have := h u v c hc; omega, fun u c hc => h u k c hc, fun v c hc => h k v c hc⟩
theorem up_relK {n : Nat} {bs : List Ed} {U : Int} (h0 : 0 ≤ U) (hU : ∀ b ∈ bs, b.m ≤ U) : ∀ k, Up (upTo U k) (relK n (impK bs bs.length) k) := by
  intro k
  induction k with
  | zero => exact up_bounds h0 hU _
  | succ k ih =>
    have h1 := relX_ind (P := UpK k (upTo U k)) (n := n) (k := k) (fun T x y h => upK_step T x y h) (upK_of (upTo_pos h0 k) ih k) n
    exact fun u v c hc => h1.1 u v c hc
/-- at every point on the way: entries are at most upTo U (k + 1), and at least as the values ask -/
theorem up_at {n : Nat} {bs : List Ed} {U : Int} (h0 : 0 ≤ U) (hU : ∀ b ∈ bs, b.m ≤ U) (k x y : Nat) : UpK k (upTo U k) (relY (relX n (relK n (impK bs bs.length) k) k x) k x y) :=
  relY_ind (fun T y h => upK_step T x y h) (relX_ind (fun T x y h => upK_step T x y h) (upK_of (upTo_pos h0 k) (up_relK h0 hU k) k) x) y
theorem ways_at {n : Nat} {bs : List Ed} (k x y : Nat) : Ways bs (relY (relX n (relK n (impK bs bs.length) k) k x) k x y) :=
  relY_ind (fun T y h => ways_step T k x y h) (relX_ind (fun T x y h => ways_step T k x y h) (relK_ind (fun T k x y h => ways_step T k x y h) (ways_bounds _) k) x) y
end Go.Proofs.Ytgecbjjcjemcgaa
