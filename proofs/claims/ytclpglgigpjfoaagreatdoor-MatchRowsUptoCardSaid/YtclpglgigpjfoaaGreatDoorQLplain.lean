/- Plain laws of ledgers: orders of bindings, matches and entries; the counts of a ledger; two ledgers in order, with counts that are not 0, are equal if they count the same. -/
import Derived.ProofKit
namespace Go.Proofs.YtclpglgigpjfoaaGreatDoor

structure Bnd where
  v : Int
  t : Int
  s : Int
  n : Int
structure Ety where
  q : Int
  bs : List Bnd
  n : Int
structure Chg where
  sg : Int
  q : Int
  bs : List Bnd

instance bndDec : DecidableEq Bnd := fun a b => decidable_of_iff (a.v = b.v ∧ a.t = b.t ∧ a.s = b.s ∧ a.n = b.n) (by cases a; cases b; simp)
instance entDec : DecidableEq Ety := fun a b => decidable_of_iff (a.q = b.q ∧ a.bs = b.bs ∧ a.n = b.n) (by cases a; cases b; simp)
instance chgDec : DecidableEq Chg := fun a b => decidable_of_iff (a.sg = b.sg ∧ a.q = b.q ∧ a.bs = b.bs) (by cases a; cases b; simp)

def cmpI (a b : Int) : Int := if a < b then -1 else if b < a then 1 else 0
def orI (a b : Int) : Int := if a = 0 then b else a

/-- c compares: against the other direction, transitively, the same for equals -/
structure PC {α : Type} (c : α → α → Int) : Prop where
  anti : ∀ a b, c b a = - c a b
  lt : ∀ a b d, c a b < 0 → c b d < 0 → c a d < 0
  cong : ∀ a b d, c a b = 0 → c a d = c b d

theorem cmpI_pc : PC cmpI := by
  refine ⟨fun a b => ?_, fun a b d => ?_, fun a b d => ?_⟩ <;> unfold cmpI <;> (repeat' split) <;> omega
theorem cmpI_eq {a b : Int} : cmpI a b = 0 ↔ a = b := by unfold cmpI; (repeat' split) <;> omega
section
variable {α β : Type} {c d : α → α → Int}
theorem PC.refl (h : PC c) (a : α) : c a a = 0 := by have := h.anti a a; omega
theorem PC.sym (h : PC c) {a b : α} (e : c a b = 0) : c b a = 0 := by have := h.anti a b; omega
theorem PC.gt (h : PC c) {a b : α} : 0 < c a b ↔ c b a < 0 := by have := h.anti a b; omega
theorem PC.congr (h : PC c) (a b e : α) (he : c a b = 0) : c e a = c e b := by
  have h1 := h.cong a b e he
  have h2 := h.anti a e
  have h3 := h.anti b e
  omega
theorem PC.lt_eq (h : PC c) {a b e : α} (h1 : c a b < 0) (h2 : c b e = 0) : c a e < 0 := by
  have := h.congr b e a h2; omega
theorem PC.eq_lt (h : PC c) {a b e : α} (h1 : c a b = 0) (h2 : c b e < 0) : c a e < 0 := by
  have := h.cong a b e h1; omega
theorem PC.or (h : PC c) (k : PC d) : PC (fun a b => orI (c a b) (d a b)) := by
  refine ⟨fun a b => ?_, fun a b e => ?_, fun a b e => ?_⟩
  · have h1 := h.anti a b
    have h2 := k.anti a b
    simp only [orI]
    split <;> split <;> omega
  · simp only [orI]
    by_cases h1 : c a b = 0
    · by_cases h2 : c b e = 0
      · have h3 : c a e = 0 := by rw [h.cong a b e h1]; exact h2
        rw [if_pos h1, if_pos h2, if_pos h3]
        exact k.lt a b e
      · have h3 : c a e = c b e := h.cong a b e h1
        rw [if_pos h1, if_neg h2, if_neg (by omega), h3]
        exact fun _ h => h
    · by_cases h2 : c b e = 0
      · have h3 : c a b = c a e := h.congr b e a h2
        rw [if_neg h1, if_pos h2, if_neg (by omega), h3]
        exact fun h _ => h
      · rw [if_neg h1, if_neg h2]
        intro h3 h4
        have := h.lt a b e h3 h4
        rw [if_neg (by omega)]
        exact this
  · simp only [orI]
    intro h0
    by_cases h1 : c a b = 0
    · rw [if_pos h1] at h0
      rw [h.cong a b e h1, k.cong a b e h0]
    · rw [if_neg h1] at h0; omega
theorem PC.of {c : β → β → Int} (h : PC c) (f : α → β) : PC (fun a b => c (f a) (f b)) :=
  ⟨fun _ _ => h.anti _ _, fun _ _ _ => h.lt _ _ _, fun _ _ _ => h.cong _ _ _⟩
theorem orI_zero {a b : Int} : orI a b = 0 ↔ a = 0 ∧ b = 0 := by unfold orI; split <;> omega

/-- the order of two lists: the first difference, else the shorter one first -/
def listC (c : α → α → Int) : List α → List α → Int
  | [], [] => 0
  | [], _ :: _ => -1
  | _ :: _, [] => 1
  | a :: l, b :: m => orI (c a b) (listC c l m)
theorem PC.list (h : PC c) : PC (listC c) := by
  refine ⟨?_, ?_, ?_⟩
  · intro a
    induction a with
    | nil => intro b; cases b <;> simp [listC]
    | cons x a ih =>
      intro b
      cases b with
      | nil => simp [listC]
      | cons y b =>
        have h1 := h.anti x y
        have h2 := ih b
        simp only [listC, orI]
        split <;> split <;> omega
  · intro a
    induction a with
    | nil => intro b d; cases b <;> cases d <;> simp [listC]
    | cons x a ih =>
      intro b d
      cases b with
      | nil => cases d <;> simp [listC]
      | cons y b =>
        cases d with
        | nil => simp [listC]
        | cons z d =>
          simp only [listC, orI]
          by_cases h1 : c x y = 0
          · by_cases h2 : c y z = 0
            · have h3 : c x z = 0 := by rw [h.cong x y z h1]; exact h2
              rw [if_pos h1, if_pos h2, if_pos h3]
              exact ih b d
            · have h3 : c x z = c y z := h.cong x y z h1
              rw [if_pos h1, if_neg h2, if_neg (by omega), h3]
              exact fun _ h => h
          · by_cases h2 : c y z = 0
            · have h3 : c x y = c x z := h.congr y z x h2
              rw [if_neg h1, if_pos h2, if_neg (by omega), h3]
              exact fun h _ => h
            · rw [if_neg h1, if_neg h2]
              intro h3 h4
              have := h.lt x y z h3 h4
              rw [if_neg (by omega)]
              exact this
  · intro a
    induction a with
    | nil => intro b d; cases b <;> simp [listC]
    | cons x a ih =>
      intro b d
      cases b with
      | nil => simp [listC]
      | cons y b =>
        intro h0
        simp only [listC] at h0
        obtain ⟨h1, h2⟩ := orI_zero.1 h0
        cases d with
        | nil => rfl
        | cons z d => simp only [listC]; rw [h.cong x y z h1, ih b d h2]
theorem listC_eq (he : ∀ a b, c a b = 0 → a = b) : ∀ l m : List α, listC c l m = 0 → l = m
  | [], [], _ => rfl
  | [], _ :: _, h => by simp [listC] at h
  | _ :: _, [], h => by simp [listC] at h
  | a :: l, b :: m, h => by
    simp only [listC] at h
    obtain ⟨h1, h2⟩ := orI_zero.1 h
    rw [he a b h1, listC_eq he l m h2]
end

def refsC (a b : Bnd) : Int := orI (orI (cmpI a.t b.t) (cmpI a.s b.s)) (cmpI a.n b.n)
def bndC (a b : Bnd) : Int := orI (refsC a b) (cmpI a.v b.v)
def bsC (a b : List Bnd) : Int := listC bndC a b
def entC (a b : Ety) : Int := orI (cmpI a.q b.q) (bsC a.bs b.bs)
theorem refsC_pc : PC refsC := (((cmpI_pc.of Bnd.t).or (cmpI_pc.of Bnd.s)).or (cmpI_pc.of Bnd.n))
theorem bndC_pc : PC bndC := refsC_pc.or (cmpI_pc.of Bnd.v)
theorem bsC_pc : PC bsC := bndC_pc.list
theorem entC_pc : PC entC := (cmpI_pc.of Ety.q).or (bsC_pc.of Ety.bs)
theorem bndC_eq (a b : Bnd) (h : bndC a b = 0) : a = b := by
  unfold bndC refsC at h
  simp only [orI_zero, cmpI_eq] at h
  cases a; cases b
  simp only [Bnd.mk.injEq] at *
  omega
theorem bsC_eq {a b : List Bnd} : bsC a b = 0 ↔ a = b := ⟨listC_eq bndC_eq a b, fun h => h ▸ bsC_pc.refl a⟩
theorem entC_eq {a b : Ety} : entC a b = 0 ↔ a.q = b.q ∧ a.bs = b.bs := by
  unfold entC; rw [orI_zero, cmpI_eq, bsC_eq]

/-! ### counts -/
def cnt (q : Int) (bs : List Bnd) : List Ety → Int
  | [] => 0
  | x :: l => (if x.q = q ∧ x.bs = bs then x.n else 0) + cnt q bs l
theorem cnt_app (q : Int) (bs : List Bnd) (l m : List Ety) : cnt q bs (l ++ m) = cnt q bs l + cnt q bs m := by
  induction l with
  | nil => simp [cnt]
  | cons x l ih => simp only [List.cons_append, cnt, ih]; omega
theorem cnt_none {q : Int} {bs : List Bnd} {l : List Ety} (h : ∀ x ∈ l, ¬ (x.q = q ∧ x.bs = bs)) : cnt q bs l = 0 := by
  induction l with
  | nil => rfl
  | cons x l ih =>
    simp only [cnt]
    rw [if_neg (h x (List.mem_cons_self ..)), ih fun y hy => h y (List.mem_cons_of_mem _ hy)]; rfl
theorem cnt_perm {q : Int} {bs : List Bnd} {l m : List Ety} (h : l.Perm m) : cnt q bs l = cnt q bs m := by
  induction h with
  | nil => rfl
  | cons x _ ih => simp only [cnt, ih]
  | swap x y l => simp only [cnt]; omega
  | trans _ _ h1 h2 => rw [h1, h2]
theorem cnt_filter (q : Int) (bs : List Bnd) (l : List Ety) : cnt q bs (l.filter fun x => x.n != 0) = cnt q bs l := by
  induction l with
  | nil => rfl
  | cons x l ih =>
    rw [List.filter_cons]
    by_cases h : x.n = 0
    · rw [if_neg (by simp [h])]; simp only [cnt, ih]; rw [h]; simp
    · rw [if_pos (by simp [h])]; simp only [cnt, ih]

/-- in order, each once, with counts that are not 0 -/
def Led (l : List Ety) : Prop := l.Pairwise (fun a b => entC a b < 0) ∧ ∀ x ∈ l, x.n ≠ 0
theorem Led.nil : Led [] := ⟨List.Pairwise.nil, by simp⟩
theorem Led.tail {x : Ety} {l : List Ety} (h : Led (x :: l)) : Led l := ⟨(List.pairwise_cons.1 h.1).2, fun y hy => h.2 y (List.mem_cons_of_mem _ hy)⟩
theorem Led.head {x : Ety} {l : List Ety} (h : Led (x :: l)) : ∀ y ∈ l, entC x y < 0 := (List.pairwise_cons.1 h.1).1
theorem key_ne {a b : Ety} (h : entC a b ≠ 0) : ¬ (b.q = a.q ∧ b.bs = a.bs) := fun ⟨h1, h2⟩ => h (entC_eq.2 ⟨h1.symm, h2.symm⟩)
theorem cnt_head {x : Ety} {l : List Ety} (h : Led (x :: l)) : cnt x.q x.bs (x :: l) = x.n := by
  simp only [cnt]
  rw [if_pos ⟨trivial, trivial⟩, cnt_none fun y hy => key_ne (by have := h.head y hy; omega)]; simp
theorem cnt_below {z x : Ety} {l : List Ety} (h : Led (x :: l)) (hz : entC z x < 0) : cnt z.q z.bs (x :: l) = 0 := by
  refine cnt_none fun y hy => key_ne ?_
  rcases List.mem_cons.1 hy with rfl | hy
  · omega
  · have := entC_pc.lt z x y hz (h.head y hy); omega
theorem led_uniq : ∀ {A B : List Ety}, Led A → Led B → (∀ q bs, cnt q bs A = cnt q bs B) → A = B
  | [], [], _, _, _ => rfl
  | [], b :: B, _, hB, h => by have h1 := h b.q b.bs; rw [cnt_head hB] at h1; exact absurd h1.symm (hB.2 b (List.mem_cons_self ..))
  | a :: A, [], hA, _, h => by have h1 := h a.q a.bs; rw [cnt_head hA] at h1; exact absurd h1 (hA.2 a (List.mem_cons_self ..))
  | a :: A, b :: B, hA, hB, h => by
    have ha := h a.q a.bs
    have hb := h b.q b.bs
    rcases Int.lt_trichotomy (entC a b) 0 with h1 | h1 | h1
    · rw [cnt_head hA, cnt_below hB h1] at ha; exact absurd ha (hA.2 a (List.mem_cons_self ..))
    · obtain ⟨e1, e2⟩ := entC_eq.1 h1
      rw [cnt_head hA, e1, e2, cnt_head hB] at ha
      have hab : a = b := by cases a; cases b; simp only [Ety.mk.injEq] at *; exact ⟨e1, e2, ha⟩
      subst hab
      rw [led_uniq hA.tail hB.tail fun q bs => by have := h q bs; simp only [cnt] at this; omega]
    · rw [entC_pc.gt] at h1
      rw [cnt_head hB, cnt_below hA h1] at hb; exact absurd hb.symm (hB.2 b (List.mem_cons_self ..))

/-! ### adding one entry -/
def nz (l : List Ety) : List Ety := l.filter fun x => x.n != 0
def addR (x : Ety) : Bool → List Ety → List Ety
  | done, [] => if done = true then [] else [x]
  | true, e :: l => (if e.n = 0 then [] else [e]) ++ addR x true l
  | false, e :: l =>
    if entC x e < 0 then x :: ((if e.n = 0 then [] else [e]) ++ addR x true l)
    else if entC x e = 0 then (if e.n + x.n = 0 then [] else [⟨e.q, e.bs, e.n + x.n⟩]) ++ addR x true l
    else (if e.n = 0 then [] else [e]) ++ addR x false l
def addE (l : List Ety) (x : Ety) : List Ety := addR x (x.n == 0) l
theorem addR_true (x : Ety) {l : List Ety} (h : ∀ y ∈ l, y.n ≠ 0) : addR x true l = l := by
  induction l with
  | nil => rfl
  | cons e l ih =>
    simp only [addR]
    rw [if_neg (h e (List.mem_cons_self ..)), ih fun y hy => h y (List.mem_cons_of_mem _ hy)]; rfl
theorem addR_from {x z : Ety} {l : List Ety} (hl : Led l) (hz : entC z x < 0) (hzl : ∀ y ∈ l, entC z y < 0) : ∀ y ∈ addR x false l, entC z y < 0 := by
  induction l with
  | nil => intro y hy; simp [addR] at hy; subst hy; exact hz
  | cons e l ih =>
    have ih := ih hl.tail fun y hy => hzl y (List.mem_cons_of_mem _ hy)
    have he := hzl e (List.mem_cons_self ..)
    have hn := hl.2 e (List.mem_cons_self ..)
    have hr := addR_true x hl.tail.2
    intro y hy
    simp only [addR, hr, if_neg hn] at hy
    split at hy
    · rcases List.mem_cons.1 hy with rfl | hy
      · exact hz
      · exact hzl y (by simpa using hy)
    · split at hy
      · next h1 =>
        rcases List.mem_append.1 hy with hy | hy
        · split at hy
          · simp at hy
          · simp only [List.mem_singleton] at hy
            have : entC e y = 0 := entC_eq.2 (by rw [hy]; exact ⟨rfl, rfl⟩)
            exact entC_pc.lt_eq he this
        · exact hzl y (List.mem_cons_of_mem _ hy)
      · rcases List.mem_append.1 hy with hy | hy
        · simp only [List.mem_singleton] at hy; subst hy; exact he
        · exact ih y hy
theorem addR_led {x : Ety} {l : List Ety} (hl : Led l) (hx : x.n ≠ 0) : Led (addR x false l) ∧ ∀ q bs, cnt q bs (addR x false l) = cnt q bs l + cnt q bs [x] := by
  induction l with
  | nil => simp only [addR]; refine ⟨⟨List.pairwise_singleton _ _, by simpa using hx⟩, fun q bs => by simp [cnt]⟩
  | cons e l ih =>
    obtain ⟨ih1, ih2⟩ := ih hl.tail
    have hn := hl.2 e (List.mem_cons_self ..)
    have hr := addR_true x hl.tail.2
    simp only [addR, hr, if_neg hn]
    by_cases h1 : entC x e < 0
    · rw [if_pos h1]
      refine ⟨⟨List.pairwise_cons.2 ⟨fun y hy => ?_, hl.1⟩, fun y hy => ?_⟩, fun q bs => by simp only [List.singleton_append, cnt]; omega⟩
      · rcases List.mem_cons.1 (by simpa using hy) with rfl | hy
        · exact h1
        · exact entC_pc.lt x e y h1 (hl.head y hy)
      · rcases List.mem_cons.1 hy with rfl | hy
        · exact hx
        · exact hl.2 y (by simpa using hy)
    · rw [if_neg h1]
      by_cases h2 : entC x e = 0
      · rw [if_pos h2]
        obtain ⟨e1, e2⟩ := entC_eq.1 h2
        by_cases h3 : e.n + x.n = 0
        · rw [if_pos h3]
          refine ⟨hl.tail, fun q bs => ?_⟩
          simp only [List.nil_append, cnt, e1, e2]
          split <;> omega
        · rw [if_neg h3]
          refine ⟨⟨List.pairwise_cons.2 ⟨fun y hy => ?_, hl.tail.1⟩, fun y hy => ?_⟩, fun q bs => ?_⟩
          · exact entC_pc.eq_lt (entC_eq.2 ⟨rfl, rfl⟩) (hl.head y hy)
          · rcases List.mem_cons.1 (by simpa using hy) with rfl | hy
            · exact h3
            · exact hl.tail.2 y hy
          · simp only [List.singleton_append, cnt, e1, e2]
            split <;> omega
      · rw [if_neg h2]
        have h4 : entC e x < 0 := entC_pc.gt.1 (by omega)
        refine ⟨⟨List.pairwise_cons.2 ⟨fun y hy => addR_from hl.tail h4 hl.head y (by simpa using hy), ih1.1⟩, fun y hy => ?_⟩, fun q bs => ?_⟩
        · rcases List.mem_cons.1 (by simpa using hy) with rfl | hy
          · exact hn
          · exact ih1.2 y hy
        · simp only [List.singleton_append, cnt, ih2 q bs]; omega
theorem addE_led {x : Ety} {l : List Ety} (hl : Led l) : Led (addE l x) ∧ ∀ q bs, cnt q bs (addE l x) = cnt q bs l + cnt q bs [x] := by
  unfold addE
  by_cases h : x.n = 0
  · rw [show (x.n == 0) = true by simp [h], addR_true x hl.2]
    exact ⟨hl, fun q bs => by simp [cnt, h]⟩
  · rw [show (x.n == 0) = false by simp [h]]
    exact addR_led hl h
/-- the ledger of all entries of two lists, of which the first is a ledger -/
def sumE (l m : List Ety) : List Ety := m.foldl addE l
theorem sumE_led {l : List Ety} (hl : Led l) : ∀ m : List Ety, Led (sumE l m) ∧ ∀ q bs, cnt q bs (sumE l m) = cnt q bs l + cnt q bs m := by
  intro m
  induction m generalizing l with
  | nil => exact ⟨hl, fun q bs => by simp [sumE, cnt]⟩
  | cons x m ih =>
    obtain ⟨h1, h2⟩ := addE_led (x := x) hl
    obtain ⟨h3, h4⟩ := ih h1
    refine ⟨h3, fun q bs => ?_⟩
    have e1 := h4 q bs
    have e2 := h2 q bs
    simp only [sumE, List.foldl_cons] at *
    simp only [cnt] at *
    omega
/-- what the counts say decides the ledger -/
theorem led_is {A l m : List Ety} (hA : Led A) (hl : Led l) (h : ∀ q bs, cnt q bs A = cnt q bs l + cnt q bs m) : A = sumE l m :=
  led_uniq hA (sumE_led hl m).1 fun q bs => by rw [h, (sumE_led hl m).2]
end Go.Proofs.YtclpglgigpjfoaaGreatDoor
namespace Go.Proofs.YtclpglgigpjfoaaGreatDoor

structure Vl where
  kind : Int
  num : Int
  text : ByteArray
structure Evt where
  src : Int
  sq : Int
  ty : Int
  tm : Int
  vals : List Vl
/-- the Ref of an event, as a binding of variable 0 -/
def eRef (e : Evt) : Bnd := ⟨0, e.tm, e.src, e.sq⟩
def placedE (e : Evt) : Bool := decide (0 ≤ e.tm ∧ e.tm ≤ 1099511627776 ∧ 0 ≤ e.src ∧ e.src < 8 ∧ 0 ≤ e.sq ∧ e.sq ≤ 1099511627776)
def twinE (a b : Evt) : Bool := decide (a.src = b.src ∧ a.sq = b.sq)
/-- an event is not behind the last one -/
def lateE (pre : List Evt) (x : Evt) : Bool := match pre.getLast? with
  | some p => decide (0 ≤ refsC (eRef p) (eRef x))
  | none => false
/-- the error of an event behind others -/
def evE (pre : List Evt) (x : Evt) : Int :=
  if placedE x = false then 2 else if lateE pre x = true then 14 else if pre.any (twinE x) = true then 7 else 0
def strFrom : List Evt → List Evt → Int
  | _, [] => 0
  | pre, x :: l => if evE pre x = 0 then strFrom (pre ++ [x]) l else evE pre x
def strErr (l : List Evt) : Int := if 4096 < l.length then 5 else strFrom [] l
theorem evE_zero {pre : List Evt} {x : Evt} (h : evE pre x = 0) : placedE x = true ∧ (∀ p, pre.getLast? = some p → refsC (eRef p) (eRef x) < 0) ∧ pre.any (twinE x) = false := by
  unfold evE at h
  by_cases h1 : placedE x = false
  · rw [if_pos h1] at h; exact absurd h (by decide)
  · rw [if_neg h1] at h
    by_cases h2 : lateE pre x = true
    · rw [if_pos h2] at h; exact absurd h (by decide)
    · rw [if_neg h2] at h
      by_cases h3 : pre.any (twinE x) = true
      · rw [if_pos h3] at h; exact absurd h (by decide)
      · refine ⟨by simpa using h1, fun p hp => ?_, Bool.eq_false_iff.2 h3⟩
        unfold lateE at h2
        rw [hp] at h2
        simp at h2
        omega
/-- what a stream without an error is -/
structure StrOk (l : List Evt) : Prop where
  asc : l.Pairwise fun a b => refsC (eRef a) (eRef b) < 0
  placed : ∀ e ∈ l, placedE e = true
theorem strFrom_ok : ∀ (l pre : List Evt), StrOk pre → strFrom pre l = 0 → StrOk (pre ++ l)
  | [], pre, h, _ => by rw [List.append_nil]; exact h
  | x :: l, pre, h, h0 => by
    unfold strFrom at h0
    by_cases e : evE pre x = 0
    · rw [if_pos e] at h0
      obtain ⟨e1, e2, -⟩ := evE_zero e
      have hx : StrOk (pre ++ [x]) := by
        refine ⟨?_, fun y hy => ?_⟩
        · rw [List.pairwise_append]
          refine ⟨h.asc, List.pairwise_singleton .., fun a ha b hb => ?_⟩
          simp at hb; subst hb
          cases hp : pre.getLast? with
          | none => rw [List.getLast?_eq_none_iff] at hp; rw [hp] at ha; simp at ha
          | some p =>
            have h2 := e2 p hp
            obtain ⟨ys, hys⟩ := List.getLast?_eq_some_iff.1 hp
            rw [hys] at ha
            rcases List.mem_append.1 ha with h3 | h3
            · have h4 := h.asc
              rw [hys, List.pairwise_append] at h4
              exact refsC_pc.lt _ _ _ (h4.2.2 a h3 p (by simp)) h2
            · simp at h3; subst h3; exact h2
        · rcases List.mem_append.1 hy with hy | hy
          · exact h.placed y hy
          · simp at hy; subst hy; exact e1
      have := strFrom_ok l (pre ++ [x]) hx h0
      rwa [List.append_assoc] at this
    · rw [if_neg e] at h0; exact absurd h0 e
theorem strErr_ok {l : List Evt} (h : strErr l = 0) : StrOk l ∧ l.length ≤ 4096 := by
  unfold strErr at h
  split at h
  · exact absurd h (by decide)
  · exact ⟨by simpa using strFrom_ok l [] ⟨List.Pairwise.nil, by simp⟩ h, by omega⟩
/-- where the event with a Ref stands, if there is one -/
def lowE (l : List Evt) (r : Bnd) : Nat := (l.takeWhile fun e => decide (refsC (eRef e) r < 0)).length
theorem low_at : ∀ {l : List Evt} {r : Bnd}, (l.Pairwise fun a b => refsC (eRef a) (eRef b) < 0) → ∀ {i : Nat} {e : Evt}, l[i]? = some e → (refsC (eRef e) r < 0 ↔ i < lowE l r)
  | [], _, _, _, _, h => by simp at h
  | x :: l, r, ha, i, e, h => by
    obtain ⟨h1, h2⟩ := List.pairwise_cons.1 ha
    unfold lowE
    by_cases hx : refsC (eRef x) r < 0
    · rw [List.takeWhile_cons_of_pos (by simpa using hx)]
      cases i with
      | zero => simp at h; subst h; exact ⟨fun _ => by simp, fun _ => hx⟩
      | succ i =>
        have ih := low_at (r := r) h2 (i := i) (e := e) (by simpa using h)
        unfold lowE at ih
        rw [ih, List.length_cons]
        omega
    · rw [List.takeWhile_cons_of_neg (by simpa using hx)]
      cases i with
      | zero => simp at h; subst h; exact ⟨fun h3 => absurd h3 hx, fun h3 => by simp at h3⟩
      | succ i =>
        refine ⟨fun h3 => ?_, fun h3 => by simp at h3⟩
        have h4 := h1 e (List.mem_of_getElem? (by simpa using h))
        exact absurd (refsC_pc.lt _ _ _ h4 h3) hx
theorem low_le (l : List Evt) (r : Bnd) : lowE l r ≤ l.length := (List.takeWhile_sublist _).length_le
/-- the first event with a Ref is the one at that place -/
theorem find_low {l : List Evt} {r : Bnd} (ha : l.Pairwise fun a b => refsC (eRef a) (eRef b) < 0) : (l.find? fun e => decide (refsC (eRef e) r = 0)) = (l[lowE l r]?).filter fun e => decide (refsC (eRef e) r = 0) := by
  induction l with
  | nil => rfl
  | cons x l ih =>
    obtain ⟨h1, h2⟩ := List.pairwise_cons.1 ha
    have ih := ih h2
    unfold lowE at ih ⊢
    by_cases hx : refsC (eRef x) r < 0
    · rw [List.takeWhile_cons_of_pos (by simpa using hx), List.length_cons, List.getElem?_cons_succ, ← ih, List.find?_cons_of_neg (by simp; omega)]
    · rw [List.takeWhile_cons_of_neg (by simpa using hx)]
      by_cases h0 : refsC (eRef x) r = 0
      · rw [List.find?_cons_of_pos (by simpa using h0)]; simp [Option.filter, h0]
      · rw [List.find?_cons_of_neg (by simpa using h0)]
        have hn : l.find? (fun e => decide (refsC (eRef e) r = 0)) = none := by
          rw [List.find?_eq_none]
          intro e he h3
          have h4 := h1 e he
          have h5 : refsC (eRef e) r = 0 := by simpa using h3
          have h6 := refsC_pc.lt_eq h4 h5
          exact hx h6
        rw [hn]; simp [Option.filter, h0]
end Go.Proofs.YtclpglgigpjfoaaGreatDoor
namespace Go.Proofs.YtclpglgigpjfoaaGreatDoor

/-- a list that is in order, and that has the members of an ascending one, is that one -/
theorem asc_perm {α : Type} {c : α → α → Int} : ∀ {S l : List α}, S.Perm l → S.Pairwise (fun a b => ¬ c b a < 0) → l.Pairwise (fun a b => c a b < 0) → S = l
  | S, [], hp, _, _ => List.Perm.eq_nil hp
  | [], _ :: _, hp, _, _ => absurd hp.length_eq (by simp)
  | x :: S, b :: l, hp, hs, hl => by
    obtain ⟨s1, s2⟩ := List.pairwise_cons.1 hs
    obtain ⟨l1, l2⟩ := List.pairwise_cons.1 hl
    by_cases e : x = b
    · subst e
      rw [asc_perm ((List.perm_cons x).1 hp) s2 l2]
    · have hx : x ∈ b :: l := hp.mem_iff.1 (List.mem_cons_self ..)
      have hb : b ∈ x :: S := hp.mem_iff.2 (List.mem_cons_self ..)
      rcases List.mem_cons.1 hx with h | h
      · exact absurd h e
      · rcases List.mem_cons.1 hb with h2 | h2
        · exact absurd h2.symm e
        · exact absurd (l1 x h) (s1 b h2)
/-- the bindings of a variable -/
def ofVar (v : Nat) (bs : List Bnd) : List Bnd := bs.filter fun b => b.v == (v : Int)
theorem part_perm : ∀ (n : Nat) (bs : List Bnd), ((List.range n).flatMap fun v => ofVar v bs).Perm (bs.filter fun b => decide (0 ≤ b.v ∧ b.v < n))
  | 0, bs => by
    have : bs.filter (fun b => decide (0 ≤ b.v ∧ b.v < ((0 : Nat) : Int))) = [] := by
      rw [List.filter_eq_nil_iff]
      intro a _ h
      have := of_decide_eq_true h
      omega
    rw [this]; exact List.Perm.refl _
  | n + 1, bs => by
    rw [List.range_succ, List.flatMap_append]
    simp only [List.flatMap_cons, List.flatMap_nil, List.append_nil]
    refine ((part_perm n bs).append_right _).trans ?_
    clear part_perm
    induction bs with
    | nil => exact List.Perm.refl _
    | cons b bs ih =>
      unfold ofVar at ih ⊢
      by_cases h1 : 0 ≤ b.v ∧ b.v < (n : Int)
      · have h2 : ¬ (b.v == (n : Int)) = true := by simp; omega
        have h3 : 0 ≤ b.v ∧ b.v < ((n + 1 : Nat) : Int) := by omega
        rw [List.filter_cons_of_pos (p := fun b : Bnd => decide (0 ≤ b.v ∧ b.v < (n : Int))) (by simpa using h1), List.filter_cons_of_neg (p := fun b : Bnd => b.v == (n : Int)) h2, List.filter_cons_of_pos (p := fun b : Bnd => decide (0 ≤ b.v ∧ b.v < ((n + 1 : Nat) : Int))) (by simpa using h3), List.cons_append]
        exact ih.cons b
      · by_cases h2 : b.v = (n : Int)
        · have h3 : 0 ≤ b.v ∧ b.v < ((n + 1 : Nat) : Int) := by omega
          rw [List.filter_cons_of_neg (p := fun b : Bnd => decide (0 ≤ b.v ∧ b.v < (n : Int))) (by simpa using h1), List.filter_cons_of_pos (p := fun b : Bnd => b.v == (n : Int)) (by simpa using h2), List.filter_cons_of_pos (p := fun b : Bnd => decide (0 ≤ b.v ∧ b.v < ((n + 1 : Nat) : Int))) (by simpa using h3)]
          exact List.perm_middle.trans (ih.cons b)
        · have h3 : ¬ (0 ≤ b.v ∧ b.v < ((n + 1 : Nat) : Int)) := by omega
          rw [List.filter_cons_of_neg (p := fun b : Bnd => decide (0 ≤ b.v ∧ b.v < (n : Int))) (by simpa using h1), List.filter_cons_of_neg (p := fun b : Bnd => b.v == (n : Int)) (by simpa using h2), List.filter_cons_of_neg (p := fun b : Bnd => decide (0 ≤ b.v ∧ b.v < ((n + 1 : Nat) : Int))) (by simpa using h3)]
          exact ih
theorem back_perm {n : Nat} {bs : List Bnd} (h : ∀ b ∈ bs, 0 ≤ b.v ∧ b.v < (n : Int)) : ((List.range n).flatMap fun v => ofVar v bs).Perm bs := by
  have h1 := part_perm n bs
  rw [List.filter_eq_self.2 (fun b hb => by simpa using h b hb)] at h1
  exact h1
theorem bnd_asc {bs : List Bnd} (h : bs.Pairwise fun a b => refsC a b < 0) : bs.Pairwise fun a b => bndC a b < 0 :=
  h.imp fun h1 => by unfold bndC orI; split <;> omega
/-- sorting what has been put together yields the match -/
theorem back_is {n : Nat} {bs S : List Bnd} (hv : ∀ b ∈ bs, 0 ≤ b.v ∧ b.v < (n : Int)) (ha : bs.Pairwise fun a b => refsC a b < 0) (hp : S.Perm ((List.range n).flatMap fun v => ofVar v bs)) (hs : S.Pairwise fun a b => ¬ bndC b a < 0) : S = bs :=
  asc_perm (hp.trans (back_perm hv)) hs (bnd_asc ha)
end Go.Proofs.YtclpglgigpjfoaaGreatDoor
