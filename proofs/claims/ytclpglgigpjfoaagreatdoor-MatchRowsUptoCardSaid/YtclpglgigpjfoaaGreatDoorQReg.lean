/- A region that draws its order: a condition on the world that holds until a given operation comes up. Plain laws of the model's orders, no program in sight. -/
import Derived.OrdersHeld
import Derived.Deep.RegionHeld
namespace Go.Proofs.YtclpglgigpjfoaaGreatDoor
open Go

section
variable {P : Program} {ops : Array Oper} {Q : Exit → Act → World → Prop} {md : Region.Mode} {S : World → Prop} {s : Nat}

/-- Whatever order is picked from here on, and S holds behind every operation that is carried out before number s has come up. -/
def wpAnyP (P : Program) (md : Region.Mode) (ops : Array Oper) (Q : Exit → Act → World → Prop) (S : World → Prop) (s : Nat) : Nat → Array Bool → Act → World → Prop
  | 0, listed, a, w => wpAny P md ops Q 0 listed a w
  | fuel + 1, listed, a, w =>
    (listed.getD s false = true → wpAny P md ops Q (fuel + 1) listed a w) ∧
    (listed.getD s false = false → (Region.ready md ops listed = [] → Q .normal a w) ∧
      ∀ i ∈ Region.ready md ops listed, wpOp P ops Q i (fun a' w' => (i ≠ s → S w') ∧ wpAnyP P md ops Q S s fuel (listed.setIfInBounds i true) a' w') a w)

theorem wpAny_of_P : ∀ (fuel : Nat) (listed : Array Bool) (a : Act) (w : World), wpAnyP P md ops Q S s fuel listed a w → wpAny P md ops Q fuel listed a w
  | 0, _, _, _, h => h
  | fuel + 1, listed, a, w, h => by
    cases hs : listed.getD s false
    · have h2 := h.2 hs
      exact ⟨h2.1, fun i hi => wpOp_mono (fun a' w' h' => wpAny_of_P fuel _ a' w' h'.2) (h2.2 i hi)⟩
    · exact h.1 hs

/-- does operation s wait for number i? -/
def waits (md : Region.Mode) (ops : Array Oper) (s i : Nat) : Bool := ((ops[s]?).map fun o => o.after.any fun e => Region.binds md e && e.on == i).getD false

theorem not_ready_of_waits {i : Nat} {listed : Array Bool} (hw : waits md ops s i = true) (hi : listed.getD i false = false) : s ∉ Region.ready md ops listed := by
  intro h
  obtain ⟨_, o, ho, hall⟩ := mem_ready.1 h
  unfold waits at hw
  rw [ho] at hw
  simp only [Option.map_some, Option.getD_some, Array.any_eq_true] at hw
  obtain ⟨k, hk, he⟩ := hw
  simp only [Bool.and_eq_true, beq_iff_eq] at he
  have := hall _ (Array.getElem_mem hk) he.1
  rw [he.2, hi] at this
  cases this

theorem wpAnyP_first {i : Nat} {oi : Oper} {v : Value} (hi : ops[i]? = some oi) (hsel : ∀ (j : Nat) (o : Oper) cs b, ops[j]? = some o → o.op ≠ .select cs b)
    (hQ : ∀ c a w, Q (.panic c) (a.put oi.dst v) w → Q (.panic c) a w) (hw : waits md ops s i = true) (his : i ≠ s) :
    ∀ (fuel : Nat) (listed : Array Bool) (a : Act) (w : World),
      (∀ j oj, ops[j]? = some oj → j ≠ i → listed.getD j true = false → (∀ e ∈ oj.after, Region.binds md e = true → e.on ≠ i) → oi.apart ops oj = true) →
      i ∈ Region.ready md ops listed → listed.getD s false = false → YieldsIf P ops S oi v a → S w →
      wpAnyP P md ops Q S s fuel (listed.setIfInBounds i true) (a.put oi.dst v) w → wpAnyP P md ops Q S s (fuel + 1) listed a w := by
  intro fuel
  induction fuel with
  | zero =>
    intro listed a w _ hr hls hy hS H
    refine ⟨fun h => (by rw [h] at hls; cases hls), fun _ => ⟨fun h => (by rw [h] at hr; cases hr), fun j hj => ?_⟩⟩
    by_cases hji : j = i
    · subst hji; exact hy.wpOp hi hS ⟨fun _ => hS, H⟩
    · have := ready_mono hj hji
      rw [H.1] at this
      cases this
  | succ fuel ih =>
    intro listed a w hfree hr hls hy hS H
    refine ⟨fun h => (by rw [h] at hls; cases hls), fun _ => ⟨fun h => (by rw [h] at hr; cases hr), fun j hj => ?_⟩⟩
    by_cases hji : j = i
    · subst hji; exact hy.wpOp hi hS ⟨fun _ => hS, H⟩
    · have hls' : (listed.setIfInBounds i true).getD s false = false := by rw [getD_set_ne false his]; exact hls
      have h1 := (H.2 hls').2 j (ready_mono hj hji)
      obtain ⟨hjun, oj, hoj, hall⟩ := mem_ready.1 hj
      have hiun : listed.getD i false = false := by
        have h0 := (mem_ready.1 hr).1
        rcases Nat.lt_or_ge i listed.size with h' | h'
        · simpa [h'] using h0
        · simp [Array.getElem?_eq_none h'] at h0
      have hjs : j ≠ s := fun e => not_ready_of_waits hw hiun (e ▸ hj)
      have hnot : ∀ e ∈ oj.after, Region.binds md e = true → e.on ≠ i := fun e he hb heq => by
        have h1 := hall e he hb
        rw [heq, hiun] at h1
        cases h1
      have h2 := wpOp_putIf hoj (hfree j oj hoj hji hjun hnot) (fun cs b => hsel i oi cs b hi) (fun cs b => hsel j oj cs b hoj) hQ hy h1
      have hfree' : ∀ k ok, ops[k]? = some ok → k ≠ i → (listed.setIfInBounds j true).getD k true = false →
          (∀ e ∈ ok.after, Region.binds md e = true → e.on ≠ i) → oi.apart ops ok = true := fun k ok hk hki hun hno => by
        refine hfree k ok hk hki ?_ hno
        by_cases hjk : j = k
        · subst hjk; exact hjun
        · rw [getD_set_ne true hjk] at hun; exact hun
      refine wpOp_mono (fun a' w' h3 => ⟨fun _ => h3.2.1 hjs, ih (listed.setIfInBounds j true) a' w' hfree' (ready_mono hr (Ne.symm hji)) (by rw [getD_set_ne false hjs]; exact hls) h3.1 (h3.2.1 hjs) ?_⟩) h2
      rw [Array.setIfInBounds_comm _ _ hji]
      exact h3.2.2

/-- take number i first -/
theorem wpAnyP_take {i : Nat} {oi : Oper} {v : Value} {fuel : Nat} {listed : Array Bool} {a : Act} {w : World} (hi : ops[i]? = some oi)
    (hs : Region.noSelect ops = true) (hf : Region.free md ops listed i = true) (hr : (Region.ready md ops listed).contains i = true) (hw : (waits md ops s i && i != s && !listed.getD s false) = true)
    (hQ : ∀ c a w, Q (.panic c) (a.put oi.dst v) w → Q (.panic c) a w) (hy : YieldsIf P ops S oi v a) (hS : S w)
    (h : wpAnyP P md ops Q S s fuel (listed.setIfInBounds i true) (a.put oi.dst v) w) : wpAnyP P md ops Q S s (fuel + 1) listed a w := by
  simp only [Bool.and_eq_true, bne_iff_ne, ne_eq, Bool.not_eq_true'] at hw
  exact wpAnyP_first hi (Region.noSelect_spec hs) hQ hw.1.1 hw.1.2 fuel listed a w (Region.free_spec hi hf) (by simpa using hr) hw.2 hy hS h

/-- each of the operations rs comes up next; behind it S holds -/
def AllReadyP (P : Program) (md : Region.Mode) (ops : Array Oper) (Q : Exit → Act → World → Prop) (S : World → Prop) (s fuel : Nat) (listed : Array Bool) (a : Act) (w : World) (rs : List Nat) : Prop :=
  ∀ i ∈ rs, wpOp P ops Q i (fun a' w' => (i ≠ s → S w') ∧ wpAnyP P md ops Q S s fuel (listed.setIfInBounds i true) a' w') a w
theorem AllReadyP.nil {fuel : Nat} {listed : Array Bool} {a : Act} {w : World} : AllReadyP P md ops Q S s fuel listed a w [] := fun _ h => by cases h
theorem AllReadyP.cons {fuel : Nat} {listed : Array Bool} {a : Act} {w : World} {i : Nat} {o : Oper} {rs : List Nat} (ho : ops[i]? = some o)
    (h : ∀ K' : Act → World → Prop, Shut (∀ a w, S w → (S w → wpAnyP P md ops Q S s fuel (listed.setIfInBounds i true) a w) → K' a w) → if Region.wanted o (yielded ops a.tmps) = true then Oper.wp P o a w K' Q else K' (a.put o.dst undef) w)
    (hs : AllReadyP P md ops Q S s fuel listed a w rs) : AllReadyP P md ops Q S s fuel listed a w (i :: rs) := fun j hj => by
  rcases List.mem_cons.1 hj with rfl | hj
  · exact wpOp_step ho (fun K' hK => h K' (fun a w hS hW => hK a w ⟨fun _ => hS, hW hS⟩))
  · exact hs j hj
theorem wpAnyP_ready {rs : List Nat} {fuel : Nat} {listed : Array Bool} {a : Act} {w : World} (hr : Region.ready md ops listed = rs) (hne : rs ≠ []) (hls : listed.getD s false = false)
    (h : AllReadyP P md ops Q S s fuel listed a w rs) : wpAnyP P md ops Q S s (fuel + 1) listed a w :=
  ⟨fun h0 => (by rw [h0] at hls; cases hls), fun _ => ⟨fun h0 => absurd (hr ▸ h0) hne, hr ▸ h⟩⟩
/-- number s comes up: the condition ends; it yields its value in whatever world -/
theorem wpAnyP_end {o : Oper} {v : Value} {fuel : Nat} {listed : Array Bool} {a : Act} {w : World} (ho : ops[s]? = some o) (hr : Region.ready md ops listed = [s]) (hls : listed.getD s false = false)
    (hy : YieldsIf P ops (fun _ => True) o v a) (h : wpAny P md ops Q fuel (listed.setIfInBounds s true) (a.put o.dst v) w) (hset : (listed.setIfInBounds s true).getD s false = true) : wpAnyP P md ops Q S s (fuel + 1) listed a w := by
  refine ⟨fun h0 => (by rw [h0] at hls; cases hls), fun _ => ⟨fun h0 => (by rw [h0] at hr; cases hr), fun i hi => ?_⟩⟩
  rw [hr] at hi
  obtain rfl : i = s := by simpa using hi
  refine hy.wpOp ho trivial ⟨fun e => absurd rfl e, ?_⟩
  cases fuel with
  | zero => exact h
  | succ fuel => exact ⟨fun _ => h, fun h0 => (by rw [hset] at h0; cases h0)⟩
/-- the last operation of all, behind the end of the condition -/
theorem wpAny_last {i : Nat} {o : Oper} {fuel : Nat} {listed : Array Bool} {a : Act} {w : World} (ho : ops[i]? = some o) (hr : Region.ready md ops listed = [i]) (hr2 : Region.ready md ops (listed.setIfInBounds i true) = [])
    (h : ∀ K' : Act → World → Prop, Shut (∀ a w, Q .normal a w → K' a w) → if Region.wanted o (yielded ops a.tmps) = true then Oper.wp P o a w K' Q else K' (a.put o.dst undef) w) : wpAny P md ops Q (fuel + 1) listed a w := by
  refine ⟨fun h0 => (by rw [h0] at hr; cases hr), fun j hj => ?_⟩
  rw [hr] at hj
  obtain rfl : j = i := by simpa using hj
  refine wpOp_step ho (fun K' hK => h K' (fun a w hq => hK a w ?_))
  cases fuel with
  | zero => exact ⟨hr2, hq⟩
  | succ fuel => exact ⟨fun _ => hq, by rw [hr2]; simp⟩
/-- the beginning -/
theorem wp_region_P (S : World → Prop) (s : Nat) {id : Nat} {a : Act} {w : World} (hm : P.follows .mixedOrders = true) (hS : S w.drew)
    (h : S w.drew → wpAnyP P .any ops Q S s ops.size (Array.replicate ops.size false) a w.drew) : (Code.region id ops true).wp P Q a w :=
  wp_region_any hm (wpAny_of_P _ _ _ _ (h hS))
end
end Go.Proofs.YtclpglgigpjfoaaGreatDoor
namespace Go.Proofs.YtclpglgigpjfoaaGreatDoor
open Go

section
variable {P : Program} {ops : Array Oper} {Q : Exit → Act → World → Prop} {md : Region.Mode} {S : World → Prop}
theorem op_at {i : Nat} {oi : Oper} {rest : List Oper} (hi : ops.toList.drop i = oi :: rest) : ops[i]? = some oi := by
  rw [← Array.getElem?_toList]
  have h : (ops.toList.drop i)[0]? = some oi := by rw [hi]; rfl
  rw [List.getElem?_drop] at h
  simpa using h
theorem wpAnyH_take2 {i d fuel : Nat} {l : List Value} {ds : List Deferred} {listed L : Array Bool} {oi : Oper} {rest : List Oper} {v : Value} {w : World}
    (hi : ops.toList.drop i = oi :: rest) (hd : oi.dst = some d) (hL : listed.setIfInBounds i true = L)
    (hs : Region.noSelect ops = true) (hf : Region.free md ops listed i = true) (hr : (Region.ready md ops listed).contains i = true)
    (hQ : ∀ c a w, Q (.panic c) (a.put (some d) v) w → Q (.panic c) a w) (hw : Region.wanted oi (yielded ops l.toArray) = true)
    (hy : ∀ w, S w → (execOp (Act.eval ⟨l.toArray, ds⟩) oi).run P w = .ok (.value v) w) (hS : S w)
    (h : wpAnyH P md ops Q S fuel L ⟨(l.set d v).toArray, ds⟩ w) : wpAnyH P md ops Q S (fuel + 1) listed ⟨l.toArray, ds⟩ w := by
  subst hL
  refine wpAnyH_take (op_at hi) hs hf hr (by rw [hd]; exact hQ) (Or.inl ⟨hw, hy⟩) hS ?_
  rw [hd]
  simpa [Act.put] using h
theorem wpAnyH_next {i fuel : Nat} {l : List Value} {ds : List Deferred} {listed L : Array Bool} {oi : Oper} {rest : List Oper} {w : World}
    (hi : ops.toList.drop i = oi :: rest) (hL : listed.setIfInBounds i true = L) (hr : Region.ready md ops listed = [i]) (hw : Region.wanted oi (yielded ops l.toArray) = true)
    (h : ∀ K' : Act → World → Prop, Shut (∀ a w, S w → (S w → wpAnyH P md ops Q S fuel L a w) → K' a w) → Oper.wp P oi ⟨l.toArray, ds⟩ w K' Q) : wpAnyH P md ops Q S (fuel + 1) listed ⟨l.toArray, ds⟩ w := by
  subst hL
  refine wpAnyH_ready hr (by simp) (AllReadyH.cons (op_at hi) (fun K hK => ?_) AllReadyH.nil)
  rw [if_pos hw]
  exact h K hK
end
end Go.Proofs.YtclpglgigpjfoaaGreatDoor
