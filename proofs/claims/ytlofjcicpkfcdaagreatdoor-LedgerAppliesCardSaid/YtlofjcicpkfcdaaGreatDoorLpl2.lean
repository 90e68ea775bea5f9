/- Plain laws of ledgers: what adding up keeps, the difference of two ledgers, and what the laws of layer 41 say of them. -/
import Derived.Test.YtlofjcicpkfcdaaGreatDoorLdiff
namespace Go.Proofs.YtlofjcicpkfcdaaGreatDoor
open Go.RowKit

def absI (n : Int) : Int := if n < 0 then -n else n
def sumA (l : List Ety) : Int := (l.map fun x => absI x.n).foldr (· + ·) 0
theorem sumA_nil : sumA [] = 0 := rfl
theorem sumA_cons (x : Ety) (l : List Ety) : sumA (x :: l) = absI x.n + sumA l := rfl
theorem absI_ge (n : Int) : 0 ≤ absI n ∧ n ≤ absI n ∧ -n ≤ absI n := by unfold absI; split <;> omega
theorem sumA_ge (l : List Ety) : 0 ≤ sumA l := by
  induction l with
  | nil => exact Int.le_refl _
  | cons x l ih => rw [sumA_cons]; have := absI_ge x.n; omega
theorem sumA_app (l m : List Ety) : sumA (l ++ m) = sumA l + sumA m := by
  induction l with
  | nil => rw [List.nil_append, sumA_nil]; omega
  | cons x l ih => rw [List.cons_append, sumA_cons, sumA_cons, ih]; omega
theorem sumA_le {l : List Ety} {B : Int} (h : ∀ x ∈ l, absI x.n ≤ B) : sumA l ≤ l.length * B := by
  induction l with
  | nil => simp [sumA]
  | cons x l ih =>
    rw [sumA_cons, List.length_cons]
    have h1 := h x (List.mem_cons_self ..)
    have h2 := ih fun y hy => h y (List.mem_cons_of_mem _ hy)
    have h3 : ((l.length + 1 : Nat) : Int) * B = l.length * B + B := by rw [Int.natCast_add, Int.add_mul]; simp
    omega
theorem cnt_abs (q : Int) (bs : List Bnd) (l : List Ety) : absI (cnt q bs l) ≤ sumA l := by
  induction l with
  | nil => simp [cnt, sumA, absI]
  | cons x l ih =>
    rw [sumA_cons]
    simp only [cnt]
    have h1 := absI_ge x.n
    revert ih h1
    unfold absI
    split <;> split <;> split <;> (try split) <;> omega
theorem cnt_mem {q : Int} {bs : List Bnd} {l : List Ety} (h : cnt q bs l ≠ 0) : ∃ x ∈ l, x.q = q ∧ x.bs = bs := by
  rcases Classical.em (∃ x ∈ l, x.q = q ∧ x.bs = bs) with h1 | h1
  · exact h1
  · exact absurd (cnt_none fun x hx hk => h1 ⟨x, hx, hk⟩) h
theorem cnt_led {l : List Ety} (hl : Led l) {x : Ety} (hx : x ∈ l) : cnt x.q x.bs l = x.n := by
  induction l with
  | nil => simp at hx
  | cons y l ih =>
    rcases List.mem_cons.1 hx with rfl | hx
    · exact cnt_head hl
    · have h1 := hl.head x hx
      simp only [cnt]
      rw [if_neg fun ⟨e1, e2⟩ => by have := entC_eq.2 ⟨e1, e2⟩; omega, ih hl.tail hx]; omega
theorem addR_len (x : Ety) : ∀ (d : Bool) (l : List Ety), (addR x d l).length ≤ l.length + 1
  | d, [] => by simp only [addR]; split <;> simp
  | true, e :: l => by
    have := addR_len x true l
    simp only [addR]
    split <;> simp <;> omega
  | false, e :: l => by
    have h1 := addR_len x true l
    have h2 := addR_len x false l
    simp only [addR]
    split
    · have h3 : (addR x true l).length ≤ l.length := by
        clear h1 h2
        induction l with
        | nil => simp [addR]
        | cons y l ih => simp only [addR]; split <;> simp <;> omega
      split <;> simp <;> omega
    · split
      · split <;> simp <;> omega
      · split <;> simp <;> omega
theorem sumE_len (l m : List Ety) : (sumE l m).length ≤ l.length + m.length := by
  induction m generalizing l with
  | nil => simp [sumE]
  | cons x m ih =>
    have h1 := ih (addE l x)
    have h2 := addR_len x (x.n == 0) l
    simp only [sumE, List.foldl_cons, List.length_cons] at *
    unfold addE at *
    omega
theorem addR_sum (x : Ety) : ∀ (d : Bool) (l : List Ety), sumA (addR x d l) ≤ sumA l + (if d = true then 0 else absI x.n)
  | true, [] => by simp only [addR]; simp [sumA]
  | false, [] => by simp only [addR]; simp [sumA]
  | true, e :: l => by
    have h1 := addR_sum x true l
    have h2 := absI_ge e.n
    simp only [addR, sumA_app, sumA_cons] at *
    split
    · rw [sumA_nil]; simp at *; omega
    · rw [sumA_cons, sumA_nil]; simp at *; omega
  | false, e :: l => by
    have h1 := addR_sum x true l
    have h2 := addR_sum x false l
    have h3 := absI_ge e.n
    have h5 := absI_ge x.n
    have h4 : absI (e.n + x.n) ≤ absI e.n + absI x.n := by unfold absI; split <;> split <;> split <;> omega
    simp only [addR, if_true, if_false, Bool.false_eq_true] at *
    split
    · rw [sumA_cons, sumA_app, sumA_cons]; split
      · rw [sumA_nil]; omega
      · rw [sumA_cons, sumA_nil]; omega
    · split
      · rw [sumA_app, sumA_cons]; split
        · rw [sumA_nil]; omega
        · rw [sumA_cons, sumA_nil]; simp only; omega
      · rw [sumA_app, sumA_cons]; split
        · rw [sumA_nil]; omega
        · rw [sumA_cons, sumA_nil]; omega
theorem sumA_sumE (l m : List Ety) : sumA (sumE l m) ≤ sumA l + sumA m := by
  induction m generalizing l with
  | nil => simp [sumE, sumA]
  | cons x m ih =>
    have h1 := ih (addE l x)
    have h2 := addR_sum x (x.n == 0) l
    have h3 := absI_ge x.n
    have h4 : (if (x.n == 0) = true then 0 else absI x.n) ≤ absI x.n := by split <;> omega
    simp only [sumE, List.foldl_cons] at *
    unfold addE at *
    rw [sumA_cons]
    omega
theorem sumA_sum (L : List Ety) : sumA (sumE [] L) ≤ sumA L := by
  have := sumA_sumE [] L
  rw [sumA_nil] at this; omega
theorem sum0 {L : List Ety} : Led (sumE [] L) ∧ ∀ q bs, cnt q bs (sumE [] L) = cnt q bs L := by
  obtain ⟨h1, h2⟩ := sumE_led Led.nil L
  exact ⟨h1, fun q bs => by rw [h2]; show 0 + _ = _; omega⟩
theorem sum_mem {L : List Ety} {x : Ety} (hx : x ∈ sumE [] L) : (∃ y ∈ L, y.q = x.q ∧ y.bs = x.bs) ∧ absI x.n ≤ sumA L := by
  obtain ⟨h1, h2⟩ := sum0 (L := L)
  have h3 := cnt_led h1 hx
  rw [h2] at h3
  refine ⟨cnt_mem (by rw [h3]; exact h1.2 x hx), ?_⟩
  rw [← h3]
  exact cnt_abs _ _ _
/-- entries of good matches -/
def Good (l : List Ety) : Prop := ∀ x ∈ l, subjE x.q x.bs = 0
theorem Good.app {l m : List Ety} (h : Good l) (k : Good m) : Good (l ++ m) := fun x hx => (List.mem_append.1 hx).elim (h x) (k x)
theorem Good.sum {L : List Ety} (h : Good L) : Good (sumE [] L) := fun x hx => by
  obtain ⟨⟨y, hy, e1, e2⟩, _⟩ := sum_mem hx
  rw [← e1, ← e2]; exact h y hy
theorem scan_led {p : Option Ety} : ∀ {l : List Ety}, Led l → (∀ x ∈ l, FitE x) → (∀ a, p = some a → ∀ x ∈ l, entC a x < 0) → scanE entE p l = 0
  | [], _, _, _ => rfl
  | x :: l, h, hf, hp => by
    have hx := hf x (List.mem_cons_self ..)
    have hn := h.2 x (List.mem_cons_self ..)
    have h0 : entE p x = 0 := by
      unfold entE
      have hg : greatI x.n = false := by unfold greatI; have := hx.2; simp; omega
      have hl : late p x = false := by
        unfold late
        cases p with
        | none => rfl
        | some a => have := hp a rfl x (List.mem_cons_self ..); simp; omega
      rw [if_neg (by simp [hx.1]), if_neg hn, hg, hl]; rfl
    simp only [scanE]
    rw [if_pos h0]
    exact scan_led h.tail (fun y hy => hf y (List.mem_cons_of_mem _ hy)) fun a ha y hy => by injection ha with ha; subst ha; exact h.head y hy
theorem ledErr_0 {l : List Ety} (h : Led l) (hf : ∀ x ∈ l, FitE x) (hl : l.length ≤ 4096) : ledErr l = 0 := by
  unfold ledErr
  rw [if_neg (by omega)]
  exact scan_led h hf fun a ha => by cases ha
theorem limR_ok {l : List Ety} (hf : ∀ x ∈ l, FitE x) (hl : l.length ≤ 4096) : limR l = (l, 0) := by
  unfold limR
  rw [if_neg (by omega), if_neg]
  intro h
  obtain ⟨x, hx, hg⟩ := List.any_eq_true.1 h
  have := (hf x hx).2
  unfold greatI at hg
  simp at hg
  omega
/-- the sum of few entries is a ledger without an error -/
theorem sum_ok {L : List Ety} (hg : Good L) (hl : L.length ≤ 4096) (hs : sumA L ≤ 1099511627776) : ledErr (sumE [] L) = 0 ∧ limR (sumE [] L) = (sumE [] L, 0) := by
  have hf : ∀ x ∈ sumE [] L, FitE x := fun x hx => ⟨hg.sum x hx, by have := (sum_mem hx).2; have := absI_ge x.n; omega⟩
  have hl' : (sumE [] L).length ≤ 4096 := Nat.le_trans (sumE_len [] L) (by simpa using hl)
  exact ⟨ledErr_0 sum0.1 hf hl', limR_ok hf hl'⟩
theorem sum_eq {L M : List Ety} (h : ∀ q bs, cnt q bs L = cnt q bs M) : sumE [] L = sumE [] M :=
  led_uniq sum0.1 sum0.1 fun q bs => by rw [sum0.2, sum0.2, h]
theorem sum_is {L M : List Ety} (hM : Led M) (h : ∀ q bs, cnt q bs L = cnt q bs M) : sumE [] L = M :=
  led_uniq sum0.1 hM fun q bs => by rw [sum0.2, h]

/-! ### differences -/
def neg (l : List Ety) : List Ety := l.map fun x => ⟨x.q, x.bs, -x.n⟩
def gapsOf (a b : List Ety) : List Ety := sumE [] (neg a ++ b)
def addsBoth (T : List Ety) : List Chg := addsOf (-1) T ++ addsOf 1 T
def diffR (a b : List Ety) : List Chg × Int := if bothE a b ≠ 0 then ([], bothE a b) else if 4096 < sumA (gapsOf a b) then ([], 5) else (addsBoth (gapsOf a b), 0)
theorem cnt_neg (q : Int) (bs : List Bnd) (l : List Ety) : cnt q bs (neg l) = - cnt q bs l := by
  induction l with
  | nil => rfl
  | cons x l ih =>
    unfold neg at *
    simp only [List.map_cons, cnt, ih]
    split <;> omega
theorem sumA_neg (l : List Ety) : sumA (neg l) = sumA l := by
  induction l with
  | nil => rfl
  | cons x l ih =>
    unfold neg at *
    rw [List.map_cons, sumA_cons, sumA_cons, ih]
    congr 1
    unfold absI
    simp only
    split <;> split <;> omega
theorem Good.neg {l : List Ety} (h : Good l) : Good (neg l) := fun x hx => by
  obtain ⟨y, hy, rfl⟩ := List.mem_map.1 hx
  exact h y hy
theorem cnt_rep (q : Int) (bs : List Bnd) (k : Nat) (x : Ety) : cnt q bs (List.replicate k x) = if x.q = q ∧ x.bs = bs then k * x.n else 0 := by
  induction k with
  | zero => simp [cnt]
  | succ k ih =>
    simp only [List.replicate_succ, cnt, ih]
    split
    · rw [show ((k + 1 : Nat) : Int) * x.n = x.n + k * x.n by rw [Int.natCast_add, Int.add_mul]; simp; omega]
    · rfl
theorem cnt_adds1 (s q : Int) (bs : List Bnd) (x : Ety) (T : List Ety) : cnt q bs ((addsOf s (x :: T)).map ety) = (if x.q = q ∧ x.bs = bs then (((s * x.n).toNat : Nat) : Int) * s else 0) + cnt q bs ((addsOf s T).map ety) := by
  unfold addsOf
  rw [List.flatMap_cons, List.map_append, cnt_app, List.map_replicate, cnt_rep]
  rfl
theorem cnt_adds (q : Int) (bs : List Bnd) (T : List Ety) : cnt q bs ((addsBoth T).map ety) = cnt q bs T := by
  unfold addsBoth
  rw [List.map_append, cnt_app]
  induction T with
  | nil => rfl
  | cons x T ih =>
    rw [cnt_adds1, cnt_adds1]
    simp only [cnt]
    split <;> omega
theorem adds_len (T : List Ety) : ((addsBoth T).length : Int) = sumA T := by
  unfold addsBoth addsOf
  rw [List.length_append]
  induction T with
  | nil => rfl
  | cons x T ih =>
    rw [List.flatMap_cons, List.flatMap_cons, List.length_append, List.length_append, List.length_replicate, List.length_replicate, sumA_cons]
    unfold absI
    split <;> omega
theorem adds_of {s : Int} {T : List Ety} {c : Chg} (h : c ∈ addsOf s T) : c.sg = s ∧ ∃ x ∈ T, c.q = x.q ∧ c.bs = x.bs ∧ 0 < s * x.n := by
  unfold addsOf at h
  obtain ⟨x, hx, hc⟩ := List.mem_flatMap.1 h
  obtain ⟨h1, h2⟩ := List.mem_replicate.1 hc
  subst h2
  exact ⟨rfl, x, hx, rfl, rfl, by omega⟩
theorem adds_mem {T : List Ety} {c : Chg} (h : c ∈ addsBoth T) : (c.sg = -1 ∨ c.sg = 1) ∧ ∃ x ∈ T, c.q = x.q ∧ c.bs = x.bs ∧ 0 < c.sg * x.n := by
  unfold addsBoth at h
  rcases List.mem_append.1 h with h | h
  · obtain ⟨h1, x, hx, h2⟩ := adds_of h
    exact ⟨.inl h1, x, hx, by rw [h1]; exact h2⟩
  · obtain ⟨h1, x, hx, h2⟩ := adds_of h
    exact ⟨.inr h1, x, hx, by rw [h1]; exact h2⟩
/-- no match is both emitted and retracted -/
theorem adds_one {T : List Ety} (hT : Led T) {c d : Chg} (hc : c ∈ addsBoth T) (hd : d ∈ addsBoth T) (hq : d.q = c.q) (hb : d.bs = c.bs) : d.sg = c.sg := by
  obtain ⟨h1, x, hx, e1, e2, e3⟩ := adds_mem hc
  obtain ⟨k1, y, hy, f1, f2, f3⟩ := adds_mem hd
  have hx1 := cnt_led hT hx
  have hy1 := cnt_led hT hy
  rw [← e1, ← e2, ← hq, ← hb, f1, f2, hy1] at hx1
  rw [hx1] at f3
  rcases h1 with h1 | h1 <;> rcases k1 with k1 | k1 <;> rw [h1] at e3 <;> rw [k1] at f3 <;> omega
/-- retractions first -/
theorem adds_sorted {T : List Ety} : (addsBoth T).Pairwise (fun c d => c.sg ≤ d.sg) := by
  unfold addsBoth
  rw [List.pairwise_append]
  have h : ∀ s : Int, (addsOf s T).Pairwise (fun c d => c.sg ≤ d.sg) := fun s =>
    List.Pairwise.imp_of_mem (R := fun _ _ => True) (fun hc hd _ => by rw [(adds_of hc).1, (adds_of hd).1]; exact Int.le_refl _) (List.pairwise_of_forall fun _ _ => trivial)
  exact ⟨h _, h _, fun c hc d hd => by rw [(adds_of hc).1, (adds_of hd).1]; decide⟩
theorem adds_good {T : List Ety} (h : Good T) : ∀ c ∈ addsBoth T, chgE c = 0 := fun c hc => by
  obtain ⟨h1, x, hx, e1, e2, _⟩ := adds_mem hc
  unfold chgE
  rw [if_neg (by omega), e1, e2]
  exact h x hx
theorem chgs_0 {cs : List Chg} {p : Option Chg} (h : ∀ c ∈ cs, chgE c = 0) : scanE (fun _ c => chgE c) p cs = 0 := by
  induction cs generalizing p with
  | nil => rfl
  | cons x l ih =>
    simp only [scanE]
    rw [if_pos (h x (List.mem_cons_self ..))]
    exact ih fun c hc => h c (List.mem_cons_of_mem _ hc)
theorem good_ety {cs : List Chg} (h : ∀ c ∈ cs, chgE c = 0) : Good (cs.map ety) := fun x hx => by
  obtain ⟨c, hc, rfl⟩ := List.mem_map.1 hx
  exact (chgE_fit (h c hc)).1
theorem sumA_ety {cs : List Chg} (h : ∀ c ∈ cs, chgE c = 0) : sumA (cs.map ety) ≤ cs.length := by
  have := sumA_le (l := cs.map ety) (B := 1) fun x hx => by
    obtain ⟨c, hc, rfl⟩ := List.mem_map.1 hx
    have := h c hc
    unfold chgE at this
    unfold ety absI
    simp only
    split at this
    · omega
    · split <;> omega
  rw [List.length_map] at this
  omega
/-- a small ledger: no error, few entries, small counts -/
structure Small (l : List Ety) : Prop where
  ok : ledErr l = 0
  few : l.length ≤ 12
  cts : ∀ x ∈ l, absI x.n ≤ 50
theorem Small.led {l : List Ety} (h : Small l) : Led l := (led_ok h.ok).1
theorem Small.good {l : List Ety} (h : Small l) : Good l := fun x hx => ((led_ok h.ok).2.1 x hx).1
theorem Small.sum {l : List Ety} (h : Small l) : sumA l ≤ 600 := by
  have h1 := sumA_le h.cts
  have := h.few
  omega
theorem apply_ok {l : List Ety} {cs : List Chg} (hl : ledErr l = 0) (hc : ∀ c ∈ cs, chgE c = 0) (hn : l.length + cs.length ≤ 4096) (hs : sumA l ≤ 1000000) :
    applyR l cs = (sumE [] (l ++ cs.map ety), 0) ∧ ledErr (sumE [] (l ++ cs.map ety)) = 0 := by
  have h1 := (led_ok hl).2.1
  have hg : Good (l ++ cs.map ety) := Good.app (fun x hx => (h1 x hx).1) (good_ety hc)
  have h2 := sum_ok hg (by simp; omega) (by rw [sumA_app]; have := sumA_ety hc; omega)
  refine ⟨?_, h2.1⟩
  unfold applyR
  rw [if_neg (by simp [hl]), if_neg (by omega), if_neg (by have := chgs_0 (p := none) hc; simp [chgsE, this]), h2.2]
theorem diff_ok {a b : List Ety} (ha : Small a) (hb : Small b) : diffR a b = (addsBoth (gapsOf a b), 0) ∧ ((addsBoth (gapsOf a b)).length : Int) ≤ 1200 ∧ Good (gapsOf a b) ∧ Led (gapsOf a b) := by
  have hg : Good (neg a ++ b) := ha.good.neg.app hb.good
  have hsum : sumA (gapsOf a b) ≤ 1200 := by
    have : sumA (gapsOf a b) ≤ sumA (neg a ++ b) := sumA_sum _
    rw [sumA_app, sumA_neg] at this
    have := ha.sum
    have := hb.sum
    omega
  refine ⟨?_, by rw [adds_len]; exact hsum, hg.sum, sum0.1⟩
  unfold diffR
  rw [if_neg (by simp [bothE, ha.ok, hb.ok]), if_neg (by omega)]
end Go.Proofs.YtlofjcicpkfcdaaGreatDoor
