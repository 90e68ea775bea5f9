/- Plain laws on channels: what sending, receiving, looking do to the lists; no program in sight. -/
import Derived.Test.YteonfoaemljndaaRecv
import Derived.Test.YteonfoaemljndaaReady
import Derived.Test.YteonfoaemljndaaBegin
namespace Go.Proofs.Yteonfoaemljndaa
open Go.RowKit

theorem checkFrom_of_sorted : ∀ (l : List Queue) (p : Option Queue), (∀ a, p = some a → ∀ x ∈ l, ltQ a x) → l.Pairwise ltQ → (∀ x ∈ l, badQ x = false ∧ (x.items.length : Int) ≤ 4096 ∧ itemsErr x.items = 0) → checkFrom p l = 0 := by
  intro l
  induction l with
  | nil => intro p _ _ _; cases p <;> rfl
  | cons q l ih =>
    intro p h1 h2 h3
    obtain ⟨h2a, h2b⟩ := List.pairwise_cons.1 h2
    obtain ⟨b1, b2, b3⟩ := h3 q (List.mem_cons_self)
    have ha : afterQ p q = true := by
      cases p with
      | none => rfl
      | some a => simp only [afterQ, decide_eq_true_eq]; exact h1 a rfl q (List.mem_cons_self)
    have h0 : qErr p q = 0 := by rw [qErr_it (by rw [b1]; simp) ha b2]; exact b3
    unfold checkFrom
    rw [if_pos h0]
    refine ih _ ?_ h2b (fun x hx => h3 x (List.mem_cons_of_mem _ hx))
    intro a ha' x hx
    injection ha' with ha'
    subst ha'
    exact h2a x hx

theorem checkErr_iff {l : List Queue} : checkErr l = 0 ↔ (l.Pairwise ltQ ∧ ∀ x ∈ l, badQ x = false ∧ (x.items.length : Int) ≤ 4096 ∧ itemsErr x.items = 0) :=
  ⟨fun h => (checkFrom_sorted l none h).2, fun h => checkFrom_of_sorted l none (fun _ h => by cases h) h.1 h.2⟩

/-- the keys of channels -/
def keys (l : List Queue) : List (Int × Int) := l.map fun q => (q.frm, q.to)
theorem keys_setItems (l : List Queue) (i : Nat) (xs : List Item) : keys (setItems l i xs) = keys l := by
  unfold setItems
  split
  · rename_i q hq
    obtain ⟨hi, rfl⟩ := List.getElem?_eq_some_iff.1 hq
    unfold keys
    rw [List.map_set]
    have : ((withItems l[i] xs).frm, (withItems l[i] xs).to) = (l.map fun q => (q.frm, q.to))[i]'(by simpa using hi) := by simp [withItems]
    rw [this, List.set_getElem_self]
  · rfl
theorem sorted_keys {l m : List Queue} (hk : keys l = keys m) (h : l.Pairwise ltQ) : m.Pairwise ltQ := by
  have key : ∀ l : List Queue, l.Pairwise ltQ ↔ (keys l).Pairwise (fun a b => a.1 < b.1 ∨ a.1 = b.1 ∧ a.2 < b.2) := by
    intro l; unfold keys; rw [List.pairwise_map]; exact Iff.rfl
  rw [key] at h ⊢
  rwa [← hk]
theorem findQ_keys {l m : List Queue} (hk : keys l = keys m) (f t : Int) : findQ l f t = findQ m f t := by
  have key : ∀ l : List Queue, findQ l f t = (keys l).findIdx? (fun a => a.1 == f && a.2 == t) := by
    intro l; unfold findQ keys; rw [List.findIdx?_map]; rfl
  rw [key, key, hk]

theorem mem_setItems {l : List Queue} {i : Nat} {xs : List Item} {q : Queue} (hq : l[i]? = some q) {x : Queue} (hx : x ∈ setItems l i xs) : x ∈ l ∨ x = withItems q xs := by
  unfold setItems at hx
  rw [hq] at hx
  exact (List.mem_or_eq_of_mem_set hx)

theorem check_setItems {l : List Queue} {i : Nat} {q : Queue} {xs : List Item} (h : checkErr l = 0) (hq : l[i]? = some q) (hx : itemsErr xs = 0) (hn : (xs.length : Int) ≤ 4096) : checkErr (setItems l i xs) = 0 := by
  rw [checkErr_iff] at h ⊢
  refine ⟨sorted_keys (keys_setItems l i xs).symm h.1, fun x hx' => ?_⟩
  rcases mem_setItems hq hx' with h1 | h1
  · exact h.2 x h1
  · subst h1
    exact ⟨(h.2 q (List.mem_of_getElem? hq)).1, hn, hx⟩

theorem found_setItems {l : List Queue} {i : Nat} {q : Queue} {xs : List Item} {f t : Int} (h : checkErr l = 0) (hq : l[i]? = some q) (hx : itemsErr xs = 0) (hn : (xs.length : Int) ≤ 4096) : foundR (setItems l i xs) f t = foundR l f t := by
  unfold foundR
  rw [check_setItems h hq hx hn, h, findQ_keys (keys_setItems l i xs)]

theorem setItems_setItems {l : List Queue} {i : Nat} {xs ys : List Item} : setItems (setItems l i xs) i ys = setItems l i ys := by
  cases h : l[i]? with
  | none => unfold setItems; simp [h]
  | some q =>
    have h1 := setItems_get (xs := xs) h
    unfold setItems at h1 ⊢
    simp only [h] at h1 ⊢
    rw [h1]
    simp only [withItems, List.set_set]

theorem setItems_self {l : List Queue} {i : Nat} {q : Queue} (h : l[i]? = some q) : setItems l i q.items = l := by
  obtain ⟨hi, rfl⟩ := List.getElem?_eq_some_iff.1 h
  unfold setItems
  rw [h]
  exact List.set_getElem_self hi

theorem itemsErr_app : ∀ (a b : List Item), itemsErr (a ++ b) = if itemsErr a = 0 then itemsErr b else itemsErr a := by
  intro a
  induction a with
  | nil => intro b; simp [itemsErr]
  | cons x a ih =>
    intro b
    simp only [List.cons_append, itemsErr]
    by_cases h : itemErr x = 0
    · simp only [h, if_true]; exact ih b
    · simp [h]
theorem itemsErr_app0 {a b : List Item} (ha : itemsErr a = 0) (hb : itemsErr b = 0) : itemsErr (a ++ b) = 0 := by rw [itemsErr_app, if_pos ha, hb]
theorem itemsErr_left {a b : List Item} (h : itemsErr (a ++ b) = 0) : itemsErr a = 0 := by
  rw [itemsErr_app] at h
  by_cases ha : itemsErr a = 0
  · exact ha
  · rw [if_neg ha] at h; exact h
theorem itemsErr_right {a b : List Item} (h : itemsErr (a ++ b) = 0) : itemsErr b = 0 := by
  have ha := itemsErr_left h
  rwa [itemsErr_app, if_pos ha] at h

/-- when a send succeeds: which queue, and what it held -/
theorem sendR_inv {l : List Queue} {f t : Int} {more : List Item} (h : (sendR l f t more).2 = 0) : ∃ (i : Nat) (q : Queue), foundR l f t = ((i : Int), 0) ∧ checkErr l = 0 ∧ findQ l f t = some i ∧ l[i]? = some q ∧ itemsErr more = 0 ∧ (q.items.length : Int) + more.length ≤ 4096 ∧ sendR l f t more = (setItems l i (q.items ++ more), 0) := by
  by_cases hf : (foundR l f t).2 = 0
  · obtain ⟨i, q, h1, h2, h3, h4⟩ := found_ok hf
    by_cases hm : itemsErr more = 0
    · by_cases h5 : 4096 < (q.items.length : Int) + more.length
      · rw [sendR_many h1 h4 hm h5] at h; simp at h
      · exact ⟨i, q, h1, h2, h3, h4, hm, by omega, sendR_ok h1 h4 hm h5⟩
    · rw [sendR_it hf hm] at h; exact absurd h hm
  · rw [sendR_no hf] at h; exact absurd h hf
theorem sendR_err {l : List Queue} {f t : Int} {more : List Item} (h : (sendR l f t more).2 ≠ 0) : (sendR l f t more).1 = [] := by
  by_cases hf : (foundR l f t).2 = 0
  · obtain ⟨i, q, h1, h2, h3, h4⟩ := found_ok hf
    by_cases hm : itemsErr more = 0
    · by_cases h5 : 4096 < (q.items.length : Int) + more.length
      · rw [sendR_many h1 h4 hm h5]
      · rw [sendR_ok h1 h4 hm h5] at h; simp at h
    · rw [sendR_it hf hm]
  · rw [sendR_no hf]

/-- one step of sending one after another -/
theorem send_step {l : List Queue} {f t : Int} {items : List Item} {i : Nat} {q : Queue} (h1 : foundR l f t = ((i : Int), 0)) (h2 : checkErr l = 0) (h4 : l[i]? = some q) (hm : itemsErr items = 0) (h5 : (q.items.length : Int) + items.length ≤ 4096) {k : Nat} {x : Item} (hk : items[k]? = some x) :
    sendR (setItems l i (q.items ++ items.take k)) f t [x] = (setItems l i (q.items ++ items.take (k + 1)), 0) := by
  have hkl := (List.getElem?_eq_some_iff.1 hk).1
  have hq0 : itemsErr q.items = 0 := ((checkErr_iff.1 h2).2 q (List.mem_of_getElem? h4)).2.2
  have ht : itemsErr (items.take (k + 1)) = 0 := itemsErr_left (b := items.drop (k + 1)) (by rw [List.take_append_drop]; exact hm)
  rw [take_snoc' hk] at ht ⊢
  have ht0 := itemsErr_left ht
  have hx0 := itemsErr_right ht
  have hlen : ((q.items ++ items.take k).length : Int) + 1 ≤ 4096 := by rw [List.length_append, List.length_take]; omega
  have hf := found_setItems (f := f) (t := t) h2 h4 (itemsErr_app0 hq0 ht0) (by omega)
  rw [sendR_ok (hf.trans h1) (setItems_get h4) hx0 (by simp only [withItems, List.length_singleton]; omega), setItems_setItems]
  simp only [withItems, List.append_assoc]

/-! ### draining -/
theorem ready_iff {l : List Queue} {f t : Int} (h : checkErr l = 0) : f ∈ readyL l t ↔ (receiveR l f t).2.2 = 0 := by
  unfold readyL
  rw [List.mem_map]
  constructor
  · rintro ⟨q, hq, rfl⟩
    obtain ⟨hm, hr⟩ := List.mem_filter.1 hq
    simp only [isReady, Bool.and_eq_true, beq_iff_eq, decide_eq_true_eq] at hr
    obtain ⟨i, hi⟩ := List.mem_iff_getElem?.1 hm
    have hf : findQ l q.frm t = some i := findQ_some hi ⟨rfl, hr.1⟩ (fun j p hj hji hp => by
      have := sorted_lt h hj hi hji
      unfold ltQ at this
      omega)
    have h1 : foundR l q.frm t = ((i : Int), 0) := by unfold foundR; rw [if_pos h, hf]
    cases hqi : q.items with
    | nil => rw [hqi] at hr; simp at hr
    | cons x xs => rw [receiveR_cons h1 hi hqi]
  · intro h0
    by_cases hf : (foundR l f t).2 = 0
    · obtain ⟨i, q, h1, h2, h3, h4⟩ := found_ok hf
      obtain ⟨q', hq', e1, e2⟩ := findQ_lt h3
      rw [h4] at hq'
      injection hq' with hq'
      subst hq'
      cases hqi : q.items with
      | nil => rw [receiveR_nil h1 h4 hqi] at h0; simp at h0
      | cons x xs =>
        refine ⟨q, List.mem_filter.2 ⟨List.mem_of_getElem? h4, ?_⟩, e1⟩
        simp [isReady, e2, hqi]
    · rw [receiveR_no hf] at h0; exact absurd h0 hf

theorem receive_err {l : List Queue} {f t : Int} (h : checkErr l = 0) (h0 : (receiveR l f t).2.2 ≠ 0) : (receiveR l f t).2.2 = 6 ∨ (receiveR l f t).2.2 = 20 := by
  by_cases hf : (foundR l f t).2 = 0
  · obtain ⟨i, q, h1, h2, h3, h4⟩ := found_ok hf
    cases hqi : q.items with
    | nil => rw [receiveR_nil h1 h4 hqi]; exact .inr rfl
    | cons x xs => rw [receiveR_cons h1 h4 hqi] at h0; simp at h0
  · rw [receiveR_no hf]
    left
    unfold foundR at hf ⊢
    rw [if_pos h] at hf ⊢
    cases hq : findQ l f t with
    | some i => rw [hq] at hf; simp at hf
    | none => rfl

theorem receive_inv {l : List Queue} {f t : Int} (h0 : (receiveR l f t).2.2 = 0) : ∃ (i : Nat) (q : Queue) (x : Item) (xs : List Item), foundR l f t = ((i : Int), 0) ∧ findQ l f t = some i ∧ l[i]? = some q ∧ q.items = x :: xs ∧ receiveR l f t = (setItems l i xs, x, 0) ∧ peekR l f t = (x, true, 0) ∧ findR l f t = (i : Int) := by
  by_cases hf : (foundR l f t).2 = 0
  · obtain ⟨i, q, h1, h2, h3, h4⟩ := found_ok hf
    cases hqi : q.items with
    | nil => rw [receiveR_nil h1 h4 hqi] at h0; simp at h0
    | cons x xs => exact ⟨i, q, x, xs, h1, h3, h4, hqi, receiveR_cons h1 h4 hqi, peekR_cons h1 h4 hqi, by unfold findR; rw [h3]⟩
  · rw [receiveR_no hf] at h0; exact absurd h0 hf

/-! ### two readers, two workers -/
/-- the four queues of two readers and two workers, with items in two of them -/
def q4 (x y : List Item) : List Queue := [⟨0, 0, []⟩, ⟨0, 1, x⟩, ⟨1, 0, []⟩, ⟨1, 1, y⟩]
theorem q4_check {x y : List Item} (hx : itemsErr x = 0) (hy : itemsErr y = 0) (nx : x.length ≤ 4096) (ny : y.length ≤ 4096) : checkErr (q4 x y) = 0 := by
  rw [checkErr_iff]
  refine ⟨by simp [q4, ltQ], ?_⟩
  intro q hq
  simp only [q4, List.mem_cons, List.not_mem_nil, or_false] at hq
  rcases hq with rfl | rfl | rfl | rfl
  · exact ⟨rfl, by simp, rfl⟩
  · exact ⟨rfl, by simp; omega, hx⟩
  · exact ⟨rfl, by simp, rfl⟩
  · exact ⟨rfl, by simp; omega, hy⟩
theorem q4_findA (x y : List Item) : findQ (q4 x y) 0 1 = some 1 := by rfl
theorem q4_findB (x y : List Item) : findQ (q4 x y) 1 1 = some 3 := by rfl
theorem q4_foundA {x y : List Item} (hc : checkErr (q4 x y) = 0) : foundR (q4 x y) 0 1 = (((1 : Nat) : Int), 0) := by unfold foundR; rw [if_pos hc, q4_findA]
theorem q4_foundB {x y : List Item} (hc : checkErr (q4 x y) = 0) : foundR (q4 x y) 1 1 = (((3 : Nat) : Int), 0) := by unfold foundR; rw [if_pos hc, q4_findB]
theorem itemsErr_one (z : Item) : itemsErr [z] = itemErr z := by
  unfold itemsErr
  by_cases h : itemErr z = 0
  · rw [if_pos h, h]; rfl
  · rw [if_neg h]
theorem q4_sendA {x y : List Item} {z : Item} (hc : checkErr (q4 x y) = 0) (nx : x.length < 4096) (hz : itemErr z = 0) : sendR (q4 x y) 0 1 [z] = (q4 (x ++ [z]) y, 0) := by
  rw [sendR_ok (q4_foundA hc) (rfl : (q4 x y)[1]? = some ⟨0, 1, x⟩) (by rw [itemsErr_one]; exact hz) (by simp; omega)]
  rfl
theorem q4_sendB {x y : List Item} {z : Item} (hc : checkErr (q4 x y) = 0) (ny : y.length < 4096) (hz : itemErr z = 0) : sendR (q4 x y) 1 1 [z] = (q4 x (y ++ [z]), 0) := by
  rw [sendR_ok (q4_foundB hc) (rfl : (q4 x y)[3]? = some ⟨1, 1, y⟩) (by rw [itemsErr_one]; exact hz) (by simp; omega)]
  rfl
theorem q4_noA {x y : List Item} {z : Item} (hc : checkErr (q4 x y) = 0) (hz : itemErr z ≠ 0) : sendR (q4 x y) 0 1 [z] = ([], itemErr z) := by
  rw [sendR_it (by rw [q4_foundA hc]) (by rw [itemsErr_one]; exact hz), itemsErr_one]
theorem q4_noB {x y : List Item} {z : Item} (hc : checkErr (q4 x y) = 0) (hz : itemErr z ≠ 0) : sendR (q4 x y) 1 1 [z] = ([], itemErr z) := by
  rw [sendR_it (by rw [q4_foundB hc]) (by rw [itemsErr_one]; exact hz), itemsErr_one]
theorem q4_recv {x y : List Item} {z : Item} (hc : checkErr (q4 (z :: x) y) = 0) : receiveR (q4 (z :: x) y) 0 1 = (q4 x y, z, 0) := by
  rw [receiveR_cons (q4_foundA hc) (rfl : (q4 (z :: x) y)[1]? = some ⟨0, 1, z :: x⟩) rfl]
  rfl
theorem q4_gap {y : List Item} (hc : checkErr (q4 [] y) = 0) : receiveR (q4 [] y) 0 1 = ([], zeroItem, 20) :=
  receiveR_nil (q4_foundA hc) (rfl : (q4 [] y)[1]? = some ⟨0, 1, []⟩) rfl
theorem itemsErr_mem : ∀ {l : List Item} {z : Item}, z ∈ l → itemErr z ≠ 0 → itemsErr l ≠ 0 := by
  intro l
  induction l with
  | nil => intro z h; simp at h
  | cons x l ih =>
    intro z hz h0
    unfold itemsErr
    by_cases h : itemErr x = 0
    · rw [if_pos h]
      rcases List.mem_cons.1 hz with rfl | hz
      · exact absurd h h0
      · exact ih hz h0
    · rw [if_neg h]; exact h
theorem itemsErr_all : ∀ {l : List Item}, (∀ z ∈ l, itemErr z = 0) → itemsErr l = 0 := by
  intro l
  induction l with
  | nil => intro _; rfl
  | cons x l ih =>
    intro h
    unfold itemsErr
    rw [if_pos (h x List.mem_cons_self)]
    exact ih (fun z hz => h z (List.mem_cons_of_mem _ hz))
theorem one_check {l : List Item} (h : itemsErr l ≠ 0) : checkErr [⟨0, 0, l⟩] ≠ 0 := by
  intro h0
  exact h ((checkErr_iff.1 h0).2 _ List.mem_cons_self).2.2
end Go.Proofs.Yteonfoaemljndaa
