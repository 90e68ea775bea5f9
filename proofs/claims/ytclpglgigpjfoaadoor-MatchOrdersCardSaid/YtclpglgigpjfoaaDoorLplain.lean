/- Plain laws of ledgers: orders of bindings, matches and entries; the counts of a ledger; two ledgers in order, with counts that are not 0, are equal if they count the same. -/
import Derived.ProofKit
namespace Go.Proofs.YtclpglgigpjfoaaDoor

structure Bnd where
  v : Int
  t : Int
  s : Int
  n : Int
structure Ety where
  q : Int
  bs : List Bnd
  n : Int
structure Chg where
  sg : Int
  q : Int
  bs : List Bnd

instance bndDec : DecidableEq Bnd := fun a b => decidable_of_iff (a.v = b.v ∧ a.t = b.t ∧ a.s = b.s ∧ a.n = b.n) (by cases a; cases b; simp)
instance entDec : DecidableEq Ety := fun a b => decidable_of_iff (a.q = b.q ∧ a.bs = b.bs ∧ a.n = b.n) (by cases a; cases b; simp)
instance chgDec : DecidableEq Chg := fun a b => decidable_of_iff (a.sg = b.sg ∧ a.q = b.q ∧ a.bs = b.bs) (by cases a; cases b; simp)

def cmpI (a b : Int) : Int := if a < b then -1 else if b < a then 1 else 0
def orI (a b : Int) : Int := if a = 0 then b else a

/-- c compares: against the other direction, transitively, the same for equals -/
structure PC {α : Type} (c : α → α → Int) : Prop where
  anti : ∀ a b, c b a = - c a b
  lt : ∀ a b d, c a b < 0 → c b d < 0 → c a d < 0
  cong : ∀ a b d, c a b = 0 → c a d = c b d

theorem cmpI_pc : PC cmpI := by
  refine ⟨fun a b => ?_, fun a b d => ?_, fun a b d => ?_⟩ <;> unfold cmpI <;> (repeat' split) <;> omega
theorem cmpI_eq {a b : Int} : cmpI a b = 0 ↔ a = b := by unfold cmpI; (repeat' split) <;> omega
section
variable {α β : Type} {c d : α → α → Int}
theorem PC.refl (h : PC c) (a : α) : c a a = 0 := by have := h.anti a a; omega
theorem PC.sym (h : PC c) {a b : α} (e : c a b = 0) : c b a = 0 := by have := h.anti a b; omega
theorem PC.gt (h : PC c) {a b : α} : 0 < c a b ↔ c b a < 0 := by have := h.anti a b; omega
theorem PC.congr (h : PC c) (a b e : α) (he : c a b = 0) : c e a = c e b := by
  have h1 := h.cong a b e he
  have h2 := h.anti a e
  have h3 := h.anti b e
  omega
theorem PC.lt_eq (h : PC c) {a b e : α} (h1 : c a b < 0) (h2 : c b e = 0) : c a e < 0 := by
  have := h.congr b e a h2; omega
theorem PC.eq_lt (h : PC c) {a b e : α} (h1 : c a b = 0) (h2 : c b e < 0) : c a e < 0 := by
  have := h.cong a b e h1; omega
theorem PC.or (h : PC c) (k : PC d) : PC (fun a b => orI (c a b) (d a b)) := by
  refine ⟨fun a b => ?_, fun a b e => ?_, fun a b e => ?_⟩
  · have h1 := h.anti a b
    have h2 := k.anti a b
    simp only [orI]
    split <;> split <;> omega
  · simp only [orI]
    by_cases h1 : c a b = 0
    · by_cases h2 : c b e = 0
      · have h3 : c a e = 0 := by rw [h.cong a b e h1]; exact h2
        rw [if_pos h1, if_pos h2, if_pos h3]
        exact k.lt a b e
      · have h3 : c a e = c b e := h.cong a b e h1
        rw [if_pos h1, if_neg h2, if_neg (by omega), h3]
        exact fun _ h => h
    · by_cases h2 : c b e = 0
      · have h3 : c a b = c a e := h.congr b e a h2
        rw [if_neg h1, if_pos h2, if_neg (by omega), h3]
        exact fun h _ => h
      · rw [if_neg h1, if_neg h2]
        intro h3 h4
        have := h.lt a b e h3 h4
        rw [if_neg (by omega)]
        exact this
  · simp only [orI]
    intro h0
    by_cases h1 : c a b = 0
    · rw [if_pos h1] at h0
      rw [h.cong a b e h1, k.cong a b e h0]
    · rw [if_neg h1] at h0; omega
theorem PC.of {c : β → β → Int} (h : PC c) (f : α → β) : PC (fun a b => c (f a) (f b)) :=
  ⟨fun _ _ => h.anti _ _, fun _ _ _ => h.lt _ _ _, fun _ _ _ => h.cong _ _ _⟩
theorem orI_zero {a b : Int} : orI a b = 0 ↔ a = 0 ∧ b = 0 := by unfold orI; split <;> omega

/-- the order of two lists: the first difference, else the shorter one first -/
def listC (c : α → α → Int) : List α → List α → Int
  | [], [] => 0
  | [], _ :: _ => -1
  | _ :: _, [] => 1
  | a :: l, b :: m => orI (c a b) (listC c l m)
theorem PC.list (h : PC c) : PC (listC c) := by
  refine ⟨?_, ?_, ?_⟩
  · intro a
    induction a with
    | nil => intro b; cases b <;> simp [listC]
    | cons x a ih =>
      intro b
      cases b with
      | nil => simp [listC]
      | cons y b =>
        have h1 := h.anti x y
        have h2 := ih b
        simp only [listC, orI]
        split <;> split <;> omega
  · intro a
    induction a with
    | nil => intro b d; cases b <;> cases d <;> simp [listC]
    | cons x a ih =>
      intro b d
      cases b with
      | nil => cases d <;> simp [listC]
      | cons y b =>
        cases d with
        | nil => simp [listC]
        | cons z d =>
          simp only [listC, orI]
          by_cases h1 : c x y = 0
          · by_cases h2 : c y z = 0
            · have h3 : c x z = 0 := by rw [h.cong x y z h1]; exact h2
              rw [if_pos h1, if_pos h2, if_pos h3]
              exact ih b d
            · have h3 : c x z = c y z := h.cong x y z h1
              rw [if_pos h1, if_neg h2, if_neg (by omega), h3]
              exact fun _ h => h
          · by_cases h2 : c y z = 0
            · have h3 : c x y = c x z := h.congr y z x h2
              rw [if_neg h1, if_pos h2, if_neg (by omega), h3]
              exact fun h _ => h
            · rw [if_neg h1, if_neg h2]
              intro h3 h4
              have := h.lt x y z h3 h4
              rw [if_neg (by omega)]
              exact this
  · intro a
    induction a with
    | nil => intro b d; cases b <;> simp [listC]
    | cons x a ih =>
      intro b d
      cases b with
      | nil => simp [listC]
      | cons y b =>
        intro h0
        simp only [listC] at h0
        obtain ⟨h1, h2⟩ := orI_zero.1 h0
        cases d with
        | nil => rfl
        | cons z d => simp only [listC]; rw [h.cong x y z h1, ih b d h2]
theorem listC_eq (he : ∀ a b, c a b = 0 → a = b) : ∀ l m : List α, listC c l m = 0 → l = m
  | [], [], _ => rfl
  | [], _ :: _, h => by simp [listC] at h
  | _ :: _, [], h => by simp [listC] at h
  | a :: l, b :: m, h => by
    simp only [listC] at h
    obtain ⟨h1, h2⟩ := orI_zero.1 h
    rw [he a b h1, listC_eq he l m h2]
end

def refsC (a b : Bnd) : Int := orI (orI (cmpI a.t b.t) (cmpI a.s b.s)) (cmpI a.n b.n)
def bndC (a b : Bnd) : Int := orI (refsC a b) (cmpI a.v b.v)
def bsC (a b : List Bnd) : Int := listC bndC a b
def entC (a b : Ety) : Int := orI (cmpI a.q b.q) (bsC a.bs b.bs)
theorem refsC_pc : PC refsC := (((cmpI_pc.of Bnd.t).or (cmpI_pc.of Bnd.s)).or (cmpI_pc.of Bnd.n))
theorem bndC_pc : PC bndC := refsC_pc.or (cmpI_pc.of Bnd.v)
theorem bsC_pc : PC bsC := bndC_pc.list
theorem entC_pc : PC entC := (cmpI_pc.of Ety.q).or (bsC_pc.of Ety.bs)
theorem bndC_eq (a b : Bnd) (h : bndC a b = 0) : a = b := by
  unfold bndC refsC at h
  simp only [orI_zero, cmpI_eq] at h
  cases a; cases b
  simp only [Bnd.mk.injEq] at *
  omega
theorem bsC_eq {a b : List Bnd} : bsC a b = 0 ↔ a = b := ⟨listC_eq bndC_eq a b, fun h => h ▸ bsC_pc.refl a⟩
theorem entC_eq {a b : Ety} : entC a b = 0 ↔ a.q = b.q ∧ a.bs = b.bs := by
  unfold entC; rw [orI_zero, cmpI_eq, bsC_eq]

/-! ### counts -/
def cnt (q : Int) (bs : List Bnd) : List Ety → Int
  | [] => 0
  | x :: l => (if x.q = q ∧ x.bs = bs then x.n else 0) + cnt q bs l
theorem cnt_app (q : Int) (bs : List Bnd) (l m : List Ety) : cnt q bs (l ++ m) = cnt q bs l + cnt q bs m := by
  induction l with
  | nil => simp [cnt]
  | cons x l ih => simp only [List.cons_append, cnt, ih]; omega
theorem cnt_none {q : Int} {bs : List Bnd} {l : List Ety} (h : ∀ x ∈ l, ¬ (x.q = q ∧ x.bs = bs)) : cnt q bs l = 0 := by
  induction l with
  | nil => rfl
  | cons x l ih =>
    simp only [cnt]
    rw [if_neg (h x (List.mem_cons_self ..)), ih fun y hy => h y (List.mem_cons_of_mem _ hy)]; rfl
theorem cnt_perm {q : Int} {bs : List Bnd} {l m : List Ety} (h : l.Perm m) : cnt q bs l = cnt q bs m := by
  induction h with
  | nil => rfl
  | cons x _ ih => simp only [cnt, ih]
  | swap x y l => simp only [cnt]; omega
  | trans _ _ h1 h2 => rw [h1, h2]
theorem cnt_filter (q : Int) (bs : List Bnd) (l : List Ety) : cnt q bs (l.filter fun x => x.n != 0) = cnt q bs l := by
  induction l with
  | nil => rfl
  | cons x l ih =>
    rw [List.filter_cons]
    by_cases h : x.n = 0
    · rw [if_neg (by simp [h])]; simp only [cnt, ih]; rw [h]; simp
    · rw [if_pos (by simp [h])]; simp only [cnt, ih]

/-- in order, each once, with counts that are not 0 -/
def Led (l : List Ety) : Prop := l.Pairwise (fun a b => entC a b < 0) ∧ ∀ x ∈ l, x.n ≠ 0
theorem Led.nil : Led [] := ⟨List.Pairwise.nil, by simp⟩
theorem Led.tail {x : Ety} {l : List Ety} (h : Led (x :: l)) : Led l := ⟨(List.pairwise_cons.1 h.1).2, fun y hy => h.2 y (List.mem_cons_of_mem _ hy)⟩
theorem Led.head {x : Ety} {l : List Ety} (h : Led (x :: l)) : ∀ y ∈ l, entC x y < 0 := (List.pairwise_cons.1 h.1).1
theorem key_ne {a b : Ety} (h : entC a b ≠ 0) : ¬ (b.q = a.q ∧ b.bs = a.bs) := fun ⟨h1, h2⟩ => h (entC_eq.2 ⟨h1.symm, h2.symm⟩)
theorem cnt_head {x : Ety} {l : List Ety} (h : Led (x :: l)) : cnt x.q x.bs (x :: l) = x.n := by
  simp only [cnt]
  rw [if_pos ⟨trivial, trivial⟩, cnt_none fun y hy => key_ne (by have := h.head y hy; omega)]; simp
theorem cnt_below {z x : Ety} {l : List Ety} (h : Led (x :: l)) (hz : entC z x < 0) : cnt z.q z.bs (x :: l) = 0 := by
  refine cnt_none fun y hy => key_ne ?_
  rcases List.mem_cons.1 hy with rfl | hy
  · omega
  · have := entC_pc.lt z x y hz (h.head y hy); omega
theorem led_uniq : ∀ {A B : List Ety}, Led A → Led B → (∀ q bs, cnt q bs A = cnt q bs B) → A = B
  | [], [], _, _, _ => rfl
  | [], b :: B, _, hB, h => by have h1 := h b.q b.bs; rw [cnt_head hB] at h1; exact absurd h1.symm (hB.2 b (List.mem_cons_self ..))
  | a :: A, [], hA, _, h => by have h1 := h a.q a.bs; rw [cnt_head hA] at h1; exact absurd h1 (hA.2 a (List.mem_cons_self ..))
  | a :: A, b :: B, hA, hB, h => by
    have ha := h a.q a.bs
    have hb := h b.q b.bs
    rcases Int.lt_trichotomy (entC a b) 0 with h1 | h1 | h1
    · rw [cnt_head hA, cnt_below hB h1] at ha; exact absurd ha (hA.2 a (List.mem_cons_self ..))
    · obtain ⟨e1, e2⟩ := entC_eq.1 h1
      rw [cnt_head hA, e1, e2, cnt_head hB] at ha
      have hab : a = b := by cases a; cases b; simp only [Ety.mk.injEq] at *; exact ⟨e1, e2, ha⟩
      subst hab
      rw [led_uniq hA.tail hB.tail fun q bs => by have := h q bs; simp only [cnt] at this; omega]
    · rw [entC_pc.gt] at h1
      rw [cnt_head hB, cnt_below hA h1] at hb; exact absurd hb.symm (hB.2 b (List.mem_cons_self ..))

/-! ### adding one entry -/
def nz (l : List Ety) : List Ety := l.filter fun x => x.n != 0
def addR (x : Ety) : Bool → List Ety → List Ety
  | done, [] => if done = true then [] else [x]
  | true, e :: l => (if e.n = 0 then [] else [e]) ++ addR x true l
  | false, e :: l =>
    if entC x e < 0 then x :: ((if e.n = 0 then [] else [e]) ++ addR x true l)
    else if entC x e = 0 then (if e.n + x.n = 0 then [] else [⟨e.q, e.bs, e.n + x.n⟩]) ++ addR x true l
    else (if e.n = 0 then [] else [e]) ++ addR x false l
def addE (l : List Ety) (x : Ety) : List Ety := addR x (x.n == 0) l
theorem addR_true (x : Ety) {l : List Ety} (h : ∀ y ∈ l, y.n ≠ 0) : addR x true l = l := by
  induction l with
  | nil => rfl
  | cons e l ih =>
    simp only [addR]
    rw [if_neg (h e (List.mem_cons_self ..)), ih fun y hy => h y (List.mem_cons_of_mem _ hy)]; rfl
theorem addR_from {x z : Ety} {l : List Ety} (hl : Led l) (hz : entC z x < 0) (hzl : ∀ y ∈ l, entC z y < 0) : ∀ y ∈ addR x false l, entC z y < 0 := by
  induction l with
  | nil => intro y hy; simp [addR] at hy; subst hy; exact hz
  | cons e l ih =>
    have ih := ih hl.tail fun y hy => hzl y (List.mem_cons_of_mem _ hy)
    have he := hzl e (List.mem_cons_self ..)
    have hn := hl.2 e (List.mem_cons_self ..)
    have hr := addR_true x hl.tail.2
    intro y hy
    simp only [addR, hr, if_neg hn] at hy
    split at hy
    · rcases List.mem_cons.1 hy with rfl | hy
      · exact hz
      · exact hzl y (by simpa using hy)
    · split at hy
      · next h1 =>
        rcases List.mem_append.1 hy with hy | hy
        · split at hy
          · simp at hy
          · simp only [List.mem_singleton] at hy
            have : entC e y = 0 := entC_eq.2 (by rw [hy]; exact ⟨rfl, rfl⟩)
            exact entC_pc.lt_eq he this
        · exact hzl y (List.mem_cons_of_mem _ hy)
      · rcases List.mem_append.1 hy with hy | hy
        · simp only [List.mem_singleton] at hy; subst hy; exact he
        · exact ih y hy
theorem addR_led {x : Ety} {l : List Ety} (hl : Led l) (hx : x.n ≠ 0) : Led (addR x false l) ∧ ∀ q bs, cnt q bs (addR x false l) = cnt q bs l + cnt q bs [x] := by
  induction l with
  | nil => simp only [addR]; refine ⟨⟨List.pairwise_singleton _ _, by simpa using hx⟩, fun q bs => by simp [cnt]⟩
  | cons e l ih =>
    obtain ⟨ih1, ih2⟩ := ih hl.tail
    have hn := hl.2 e (List.mem_cons_self ..)
    have hr := addR_true x hl.tail.2
    simp only [addR, hr, if_neg hn]
    by_cases h1 : entC x e < 0
    · rw [if_pos h1]
      refine ⟨⟨List.pairwise_cons.2 ⟨fun y hy => ?_, hl.1⟩, fun y hy => ?_⟩, fun q bs => by simp only [List.singleton_append, cnt]; omega⟩
      · rcases List.mem_cons.1 (by simpa using hy) with rfl | hy
        · exact h1
        · exact entC_pc.lt x e y h1 (hl.head y hy)
      · rcases List.mem_cons.1 hy with rfl | hy
        · exact hx
        · exact hl.2 y (by simpa using hy)
    · rw [if_neg h1]
      by_cases h2 : entC x e = 0
      · rw [if_pos h2]
        obtain ⟨e1, e2⟩ := entC_eq.1 h2
        by_cases h3 : e.n + x.n = 0
        · rw [if_pos h3]
          refine ⟨hl.tail, fun q bs => ?_⟩
          simp only [List.nil_append, cnt, e1, e2]
          split <;> omega
        · rw [if_neg h3]
          refine ⟨⟨List.pairwise_cons.2 ⟨fun y hy => ?_, hl.tail.1⟩, fun y hy => ?_⟩, fun q bs => ?_⟩
          · exact entC_pc.eq_lt (entC_eq.2 ⟨rfl, rfl⟩) (hl.head y hy)
          · rcases List.mem_cons.1 (by simpa using hy) with rfl | hy
            · exact h3
            · exact hl.tail.2 y hy
          · simp only [List.singleton_append, cnt, e1, e2]
            split <;> omega
      · rw [if_neg h2]
        have h4 : entC e x < 0 := entC_pc.gt.1 (by omega)
        refine ⟨⟨List.pairwise_cons.2 ⟨fun y hy => addR_from hl.tail h4 hl.head y (by simpa using hy), ih1.1⟩, fun y hy => ?_⟩, fun q bs => ?_⟩
        · rcases List.mem_cons.1 (by simpa using hy) with rfl | hy
          · exact hn
          · exact ih1.2 y hy
        · simp only [List.singleton_append, cnt, ih2 q bs]; omega
theorem addE_led {x : Ety} {l : List Ety} (hl : Led l) : Led (addE l x) ∧ ∀ q bs, cnt q bs (addE l x) = cnt q bs l + cnt q bs [x] := by
  unfold addE
  by_cases h : x.n = 0
  · rw [show (x.n == 0) = true by simp [h], addR_true x hl.2]
    exact ⟨hl, fun q bs => by simp [cnt, h]⟩
  · rw [show (x.n == 0) = false by simp [h]]
    exact addR_led hl h
/-- the ledger of all entries of two lists, of which the first is a ledger -/
def sumE (l m : List Ety) : List Ety := m.foldl addE l
theorem sumE_led {l : List Ety} (hl : Led l) : ∀ m : List Ety, Led (sumE l m) ∧ ∀ q bs, cnt q bs (sumE l m) = cnt q bs l + cnt q bs m := by
  intro m
  induction m generalizing l with
  | nil => exact ⟨hl, fun q bs => by simp [sumE, cnt]⟩
  | cons x m ih =>
    obtain ⟨h1, h2⟩ := addE_led (x := x) hl
    obtain ⟨h3, h4⟩ := ih h1
    refine ⟨h3, fun q bs => ?_⟩
    have e1 := h4 q bs
    have e2 := h2 q bs
    simp only [sumE, List.foldl_cons] at *
    simp only [cnt] at *
    omega
/-- what the counts say decides the ledger -/
theorem led_is {A l m : List Ety} (hA : Led A) (hl : Led l) (h : ∀ q bs, cnt q bs A = cnt q bs l + cnt q bs m) : A = sumE l m :=
  led_uniq hA (sumE_led hl m).1 fun q bs => by rw [h, (sumE_led hl m).2]
end Go.Proofs.YtclpglgigpjfoaaDoor
