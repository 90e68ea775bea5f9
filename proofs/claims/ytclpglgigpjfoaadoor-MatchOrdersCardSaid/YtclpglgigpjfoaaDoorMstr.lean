/- Plain laws of streams: their error, and the event with a Ref. -/
import Derived.Test.YtclpglgigpjfoaaDoorLplain
namespace Go.Proofs.YtclpglgigpjfoaaDoor

structure Vl where
  kind : Int
  num : Int
  text : ByteArray
structure Evt where
  src : Int
  sq : Int
  ty : Int
  tm : Int
  vals : List Vl
/-- the Ref of an event, as a binding of variable 0 -/
def eRef (e : Evt) : Bnd := ⟨0, e.tm, e.src, e.sq⟩
def placedE (e : Evt) : Bool := decide (0 ≤ e.tm ∧ e.tm ≤ 1099511627776 ∧ 0 ≤ e.src ∧ e.src < 8 ∧ 0 ≤ e.sq ∧ e.sq ≤ 1099511627776)
def twinE (a b : Evt) : Bool := decide (a.src = b.src ∧ a.sq = b.sq)
/-- an event is not behind the last one -/
def lateE (pre : List Evt) (x : Evt) : Bool := match pre.getLast? with
  | some p => decide (0 ≤ refsC (eRef p) (eRef x))
  | none => false
/-- the error of an event behind others -/
def evE (pre : List Evt) (x : Evt) : Int :=
  if placedE x = false then 2 else if lateE pre x = true then 14 else if pre.any (twinE x) = true then 7 else 0
def strFrom : List Evt → List Evt → Int
  | _, [] => 0
  | pre, x :: l => if evE pre x = 0 then strFrom (pre ++ [x]) l else evE pre x
def strErr (l : List Evt) : Int := if 4096 < l.length then 5 else strFrom [] l
theorem evE_zero {pre : List Evt} {x : Evt} (h : evE pre x = 0) : placedE x = true ∧ (∀ p, pre.getLast? = some p → refsC (eRef p) (eRef x) < 0) ∧ pre.any (twinE x) = false := by
  unfold evE at h
  by_cases h1 : placedE x = false
  · rw [if_pos h1] at h; exact absurd h (by decide)
  · rw [if_neg h1] at h
    by_cases h2 : lateE pre x = true
    · rw [if_pos h2] at h; exact absurd h (by decide)
    · rw [if_neg h2] at h
      by_cases h3 : pre.any (twinE x) = true
      · rw [if_pos h3] at h; exact absurd h (by decide)
      · refine ⟨by simpa using h1, fun p hp => ?_, Bool.eq_false_iff.2 h3⟩
        unfold lateE at h2
        rw [hp] at h2
        simp at h2
        omega
/-- what a stream without an error is -/
structure StrOk (l : List Evt) : Prop where
  asc : l.Pairwise fun a b => refsC (eRef a) (eRef b) < 0
  placed : ∀ e ∈ l, placedE e = true
theorem strFrom_ok : ∀ (l pre : List Evt), StrOk pre → strFrom pre l = 0 → StrOk (pre ++ l)
  | [], pre, h, _ => by rw [List.append_nil]; exact h
  | x :: l, pre, h, h0 => by
    unfold strFrom at h0
    by_cases e : evE pre x = 0
    · rw [if_pos e] at h0
      obtain ⟨e1, e2, -⟩ := evE_zero e
      have hx : StrOk (pre ++ [x]) := by
        refine ⟨?_, fun y hy => ?_⟩
        · rw [List.pairwise_append]
          refine ⟨h.asc, List.pairwise_singleton .., fun a ha b hb => ?_⟩
          simp at hb; subst hb
          cases hp : pre.getLast? with
          | none => rw [List.getLast?_eq_none_iff] at hp; rw [hp] at ha; simp at ha
          | some p =>
            have h2 := e2 p hp
            obtain ⟨ys, hys⟩ := List.getLast?_eq_some_iff.1 hp
            rw [hys] at ha
            rcases List.mem_append.1 ha with h3 | h3
            · have h4 := h.asc
              rw [hys, List.pairwise_append] at h4
              exact refsC_pc.lt _ _ _ (h4.2.2 a h3 p (by simp)) h2
            · simp at h3; subst h3; exact h2
        · rcases List.mem_append.1 hy with hy | hy
          · exact h.placed y hy
          · simp at hy; subst hy; exact e1
      have := strFrom_ok l (pre ++ [x]) hx h0
      rwa [List.append_assoc] at this
    · rw [if_neg e] at h0; exact absurd h0 e
theorem strErr_ok {l : List Evt} (h : strErr l = 0) : StrOk l ∧ l.length ≤ 4096 := by
  unfold strErr at h
  split at h
  · exact absurd h (by decide)
  · exact ⟨by simpa using strFrom_ok l [] ⟨List.Pairwise.nil, by simp⟩ h, by omega⟩
/-- where the event with a Ref stands, if there is one -/
def lowE (l : List Evt) (r : Bnd) : Nat := (l.takeWhile fun e => decide (refsC (eRef e) r < 0)).length
theorem low_at : ∀ {l : List Evt} {r : Bnd}, (l.Pairwise fun a b => refsC (eRef a) (eRef b) < 0) → ∀ {i : Nat} {e : Evt}, l[i]? = some e → (refsC (eRef e) r < 0 ↔ i < lowE l r)
  | [], _, _, _, _, h => by simp at h
  | x :: l, r, ha, i, e, h => by
    obtain ⟨h1, h2⟩ := List.pairwise_cons.1 ha
    unfold lowE
    by_cases hx : refsC (eRef x) r < 0
    · rw [List.takeWhile_cons_of_pos (by simpa using hx)]
      cases i with
      | zero => simp at h; subst h; exact ⟨fun _ => by simp, fun _ => hx⟩
      | succ i =>
        have ih := low_at (r := r) h2 (i := i) (e := e) (by simpa using h)
        unfold lowE at ih
        rw [ih, List.length_cons]
        omega
    · rw [List.takeWhile_cons_of_neg (by simpa using hx)]
      cases i with
      | zero => simp at h; subst h; exact ⟨fun h3 => absurd h3 hx, fun h3 => by simp at h3⟩
      | succ i =>
        refine ⟨fun h3 => ?_, fun h3 => by simp at h3⟩
        have h4 := h1 e (List.mem_of_getElem? (by simpa using h))
        exact absurd (refsC_pc.lt _ _ _ h4 h3) hx
theorem low_le (l : List Evt) (r : Bnd) : lowE l r ≤ l.length := (List.takeWhile_sublist _).length_le
/-- the first event with a Ref is the one at that place -/
theorem find_low {l : List Evt} {r : Bnd} (ha : l.Pairwise fun a b => refsC (eRef a) (eRef b) < 0) : (l.find? fun e => decide (refsC (eRef e) r = 0)) = (l[lowE l r]?).filter fun e => decide (refsC (eRef e) r = 0) := by
  induction l with
  | nil => rfl
  | cons x l ih =>
    obtain ⟨h1, h2⟩ := List.pairwise_cons.1 ha
    have ih := ih h2
    unfold lowE at ih ⊢
    by_cases hx : refsC (eRef x) r < 0
    · rw [List.takeWhile_cons_of_pos (by simpa using hx), List.length_cons, List.getElem?_cons_succ, ← ih, List.find?_cons_of_neg (by simp; omega)]
    · rw [List.takeWhile_cons_of_neg (by simpa using hx)]
      by_cases h0 : refsC (eRef x) r = 0
      · rw [List.find?_cons_of_pos (by simpa using h0)]; simp [Option.filter, h0]
      · rw [List.find?_cons_of_neg (by simpa using h0)]
        have hn : l.find? (fun e => decide (refsC (eRef e) r = 0)) = none := by
          rw [List.find?_eq_none]
          intro e he h3
          have h4 := h1 e he
          have h5 : refsC (eRef e) r = 0 := by simpa using h3
          have h6 := refsC_pc.lt_eq h4 h5
          exact hx h6
        rw [hn]; simp [Option.filter, h0]
end Go.Proofs.YtclpglgigpjfoaaDoor
