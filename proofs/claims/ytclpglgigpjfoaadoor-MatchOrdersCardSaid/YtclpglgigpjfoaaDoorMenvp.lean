/- Environments: which events the variables of a match bind, and the error; plain laws. -/
import Derived.Test.YtclpglgigpjfoaaDoorMstr
import Derived.Test.YtclpglgigpjfoaaDoorLchk
import Derived.Test.YtclpglgigpjfoaaDoorMrec
import Derived.Test.YtclpglgigpjfoaaDoorMev
namespace Go.Proofs.YtclpglgigpjfoaaDoor

/-- the event with the Ref of a binding -/
def evOf (l : List Evt) (r : Bnd) : Option Evt := l.find? fun e => decide (refsC (eRef e) r = 0)
def envE1 (l : List Evt) (n : Int) (b : Bnd) : Int := if n ≤ b.v then 10 else if (evOf l b).isNone = true then 6 else 0
def envErr (l : List Evt) (n : Int) (bs : List Bnd) : Int :=
  if strErr l ≠ 0 then strErr l else if inI n 16 = false then 2 else if matErr bs ≠ 0 then matErr bs else scanE (fun _ b => envE1 l n b) none bs
def stepV (l : List Evt) (vs : List (List Evt)) (b : Bnd) : List (List Evt) := match evOf l b with
  | some e => vs.set b.v.toNat (vs.getD b.v.toNat [] ++ [e])
  | none => vs
def envV (l : List Evt) (n : Nat) (bs : List Bnd) : List (List Evt) := bs.foldl (stepV l) (List.replicate n [])
def envR (l : List Evt) (n : Int) (bs : List Bnd) : List (List Evt) × Int := if envErr l n bs = 0 then (envV l n.toNat bs, 0) else ([], envErr l n bs)
theorem envV_take {l : List Evt} {n : Nat} {bs : List Bnd} {k : Nat} {b : Bnd} (h : bs[k]? = some b) : envV l n (bs.take (k + 1)) = stepV l (envV l n (bs.take k)) b := by
  obtain ⟨hk, rfl⟩ := List.getElem?_eq_some_iff.1 h
  unfold envV
  rw [List.take_succ_eq_append_getElem hk, List.foldl_append]; rfl
theorem stepV_len (l : List Evt) (vs : List (List Evt)) (b : Bnd) : (stepV l vs b).length = vs.length := by
  unfold stepV; split <;> simp
theorem envV_len (l : List Evt) (n : Nat) (bs : List Bnd) : (envV l n bs).length = n := by
  unfold envV
  have : ∀ (bs : List Bnd) (vs : List (List Evt)), (bs.foldl (stepV l) vs).length = vs.length := fun bs => by
    induction bs with
    | nil => intro vs; rfl
    | cons b bs ih => intro vs; rw [List.foldl_cons, ih, stepV_len]
  rw [this]; simp
/-- what a variable holds -/
theorem foldV_at (l : List Evt) {n : Nat} : ∀ (bs : List Bnd) (vs : List (List Evt)), (∀ b ∈ bs, 0 ≤ b.v ∧ b.v < (n : Int)) → vs.length = n → ∀ (v : Nat), v < n → (bs.foldl (stepV l) vs)[v]? = (vs[v]?).map fun x => x ++ (ofVar v bs).filterMap (evOf l)
  | [], vs, _, hn, v, hv => by
    rw [List.foldl_nil]
    simp [ofVar, List.getElem?_eq_getElem (show v < vs.length by omega)]
  | b :: bs, vs, hb, hn, v, hv => by
    obtain ⟨h0, h1⟩ := hb b (List.mem_cons_self ..)
    rw [List.foldl_cons, foldV_at l bs _ (fun x hx => hb x (List.mem_cons_of_mem _ hx)) (by rw [stepV_len]; exact hn) v hv]
    have hvv := List.getElem?_eq_getElem (show v < vs.length by omega)
    by_cases e : b.v = (v : Int)
    · have he : b.v.toNat = v := by omega
      have ho : ofVar v (b :: bs) = b :: ofVar v bs := by unfold ofVar; rw [List.filter_cons_of_pos (by simpa using e)]
      unfold stepV
      cases hev : evOf l b with
      | none => simp only [ho]; rw [List.filterMap_cons_none hev]
      | some x =>
        simp only [he, ho]
        rw [List.filterMap_cons_some hev, List.getElem?_set_self (by omega), hvv]
        simp [List.getD_eq_getElem?_getD, hvv]
    · have ho : ofVar v (b :: bs) = ofVar v bs := by unfold ofVar; rw [List.filter_cons_of_neg (by simpa using e)]
      rw [ho]
      unfold stepV
      cases hev : evOf l b with
      | none => rfl
      | some x =>
        simp only
        rw [List.getElem?_set_ne (by omega)]
theorem envV_at (l : List Evt) {n : Nat} {bs : List Bnd} (hb : ∀ b ∈ bs, 0 ≤ b.v ∧ b.v < (n : Int)) {v : Nat} (hv : v < n) : (envV l n bs)[v]? = some ((ofVar v bs).filterMap (evOf l)) := by
  unfold envV
  rw [foldV_at l bs _ hb (by simp) v hv, List.getElem?_replicate, if_pos hv]
  rfl
theorem foldV_row (l : List Evt) : ∀ (bs : List Bnd) (vs : List (List Evt)) (m : Nat), (∀ x ∈ vs, x.length ≤ m) → ∀ x ∈ bs.foldl (stepV l) vs, x.length ≤ m + bs.length
  | [], vs, m, h, x, hx => by simpa using h x hx
  | b :: bs, vs, m, h, x, hx => by
    have := foldV_row l bs (stepV l vs b) (m + 1) (fun y hy => by
      unfold stepV at hy
      split at hy
      · rcases List.mem_or_eq_of_mem_set hy with h1 | h1
        · have := h y h1; omega
        · subst h1
          rw [List.length_append]
          have : (vs.getD b.v.toNat []).length ≤ m := by
            rw [List.getD_eq_getElem?_getD]
            cases hg : vs[b.v.toNat]? with
            | none => simp
            | some z => exact h z (List.mem_of_getElem? hg)
          rw [List.length_singleton]; omega
      · have := h y hy; omega) x hx
    rw [List.length_cons]; omega
theorem envV_row {l : List Evt} {n : Nat} {bs : List Bnd} : ∀ x ∈ envV l n bs, x.length ≤ bs.length := fun x hx => by
  have := foldV_row l bs (List.replicate n []) 0 (fun y hy => by rw [(List.mem_replicate.1 hy).2]; simp) x hx
  omega
theorem hit_some {l : List Evt} {r : Bnd} (ha : l.Pairwise fun a b => refsC (eRef a) (eRef b) < 0) {e : Evt} (he : l[lowE l r]? = some e) (h : refEq (eRef e) r = true) : evOf l r = some e := by
  unfold evOf
  rw [find_low ha, he]
  rw [refEq_iff, decide_eq_true_eq] at h
  simp [Option.filter, h]
theorem hit_none {l : List Evt} {r : Bnd} (ha : l.Pairwise fun a b => refsC (eRef a) (eRef b) < 0) (h : ∀ e, l[lowE l r]? = some e → refEq (eRef e) r = false) : evOf l r = none := by
  unfold evOf
  rw [find_low ha]
  cases he : l[lowE l r]? with
  | none => rfl
  | some e =>
    have := h e he
    rw [refEq_iff, decide_eq_false_iff_not] at this
    simp [Option.filter, this]
/-- a match without an error -/
theorem scan_bnd : ∀ (l : List Bnd) (p : Option Bnd), scanE bndE p l = 0 → ∀ b ∈ l, bndOk b = true
  | [], _, _, b, hb => by simp at hb
  | x :: l, p, h, b, hb => by
    simp only [scanE] at h
    split at h
    · next e =>
      rcases List.mem_cons.1 hb with rfl | hb
      · unfold bndE at e
        cases hx : bndOk b with
        | true => rfl
        | false => rw [if_pos hx] at e; exact absurd e (by decide)
      · exact scan_bnd l _ h b hb
    · next e => exact absurd h e
theorem mat_ok {l : List Bnd} (h : matErr l = 0) : l ≠ [] ∧ l.length ≤ 4096 ∧ ∀ b ∈ l, bndOk b = true := by
  unfold matErr at h
  split at h
  · exact absurd h (by decide)
  · next h0 =>
    split at h
    · exact absurd h (by decide)
    · exact ⟨fun e => h0 (by rw [e]; rfl), by omega, scan_bnd l none h⟩
theorem bndOk_v {b : Bnd} (h : bndOk b = true) : 0 ≤ b.v ∧ b.v < 16 := by
  unfold bndOk inI at h
  simp only [Bool.and_eq_true, decide_eq_true_eq] at h
  omega
theorem envR_err {l : List Evt} {n : Int} {bs : List Bnd} {e : Int} (h : envErr l n bs = e) (h0 : e ≠ 0) : envR l n bs = ([], e) := by unfold envR; rw [h, if_neg h0]
theorem envR_ok {l : List Evt} {n : Int} {bs : List Bnd} (h : envErr l n bs = 0) : envR l n bs = (envV l n.toNat bs, 0) := by unfold envR; rw [if_pos h]
theorem envErr_str {l : List Evt} {n : Int} {bs : List Bnd} {e : Int} (h : strErr l = e) (h0 : e ≠ 0) : envErr l n bs = e := by unfold envErr; rw [h, if_pos h0]
theorem envErr_in {l : List Evt} {n : Int} {bs : List Bnd} (h : strErr l = 0) (h2 : inI n 16 = false) : envErr l n bs = 2 := by unfold envErr; rw [h, if_neg (by simp), if_pos h2]
theorem envErr_mat {l : List Evt} {n : Int} {bs : List Bnd} {e : Int} (h : strErr l = 0) (h2 : ¬ inI n 16 = false) (h3 : matErr bs = e) (h0 : e ≠ 0) : envErr l n bs = e := by unfold envErr; rw [h, if_neg (by simp), if_neg h2, h3, if_pos h0]
theorem envErr_scan {l : List Evt} {n : Int} {bs : List Bnd} (h : strErr l = 0) (h2 : ¬ inI n 16 = false) (h3 : matErr bs = 0) : envErr l n bs = scanE (fun _ b => envE1 l n b) none bs := by unfold envErr; rw [h, if_neg (by simp), if_neg h2, h3, if_neg (by simp)]
theorem envE1_10 {l : List Evt} {n : Int} {b : Bnd} (h : n ≤ b.v) : envE1 l n b = 10 := if_pos h
theorem envE1_6 {l : List Evt} {n : Int} {b : Bnd} (h : ¬ n ≤ b.v) (h2 : evOf l b = none) : envE1 l n b = 6 := by unfold envE1; rw [if_neg h, h2]; rfl
theorem envE1_0 {l : List Evt} {n : Int} {b : Bnd} {e : Evt} (h : ¬ n ≤ b.v) (h2 : evOf l b = some e) : envE1 l n b = 0 := by unfold envE1; rw [if_neg h, h2]; rfl
end Go.Proofs.YtclpglgigpjfoaaDoor
