/- The error of a match, as the program and as the reference find it. -/
import Derived.Test.YtclpglgigpjfoaaDoorLref
namespace Go.Proofs.YtclpglgigpjfoaaDoor
open Go.RowKit

/-- the first error of a list whose elements are looked at one after another, each with the one before it -/
def scanE {α : Type} (f : Option α → α → Int) : Option α → List α → Int
  | _, [] => 0
  | p, x :: l => if f p x = 0 then scanE f (some x) l else f p x
def prevL {α : Type} (l : List α) : Nat → Option α
  | 0 => none
  | k + 1 => l[k]?
theorem prevL_pos {α : Type} {l : List α} {k : Nat} {x : α} (h0 : k ≠ 0) (h : l[k - 1]? = some x) : prevL l k = some x := by
  cases k with
  | zero => omega
  | succ k => exact h
section
variable {α : Type} {f : Option α → α → Int} {l : List α} {k : Nat} {x : α} {E e : Int}
theorem scan_stop (hx : l[k]? = some x) (h : scanE f (prevL l k) (l.drop k) = E) (he : f (prevL l k) x = e) (h0 : e ≠ 0) : e = E := by
  obtain ⟨h1, rfl⟩ := List.getElem?_eq_some_iff.1 hx
  rw [List.drop_eq_getElem_cons h1, scanE, if_neg (by rw [he]; exact h0), he] at h
  exact h
theorem scan_go (hx : l[k]? = some x) (h : scanE f (prevL l k) (l.drop k) = E) (he : f (prevL l k) x = 0) : scanE f (prevL l (k + 1)) (l.drop (k + 1)) = E := by
  have hx' := hx
  obtain ⟨h1, rfl⟩ := List.getElem?_eq_some_iff.1 hx
  rw [List.drop_eq_getElem_cons h1, scanE, if_pos he] at h
  rw [prevL, hx']
  exact h
theorem scan_end (hk : l.length ≤ k) (h : scanE f (prevL l k) (l.drop k) = E) : 0 = E := by
  rw [List.drop_eq_nil_of_le hk, scanE] at h; exact h
end

def inI (n m : Int) : Bool := decide (0 ≤ n) && decide (n ≤ m)
def plB (b : Bnd) : Bool := inI b.t 1099511627776 && inI b.s 7 && inI b.n 1099511627776
def bndOk (b : Bnd) : Bool := inI b.v 15 && plB b
def behind (p : Option Bnd) (b : Bnd) : Bool := match p with | none => true | some a => decide (refsC a b < 0)
def bndE (p : Option Bnd) (b : Bnd) : Int := if bndOk b = false then 2 else if behind p b = true then 0 else 14
def matErr (l : List Bnd) : Int := if l.length = 0 then 15 else if 4096 < l.length then 5 else scanE bndE none l
theorem bndE_2 {p : Option Bnd} {b : Bnd} (h : bndOk b = false) : bndE p b = 2 := if_pos h
theorem bndE_14 {p a : Bnd} {l : List Bnd} {k : Nat} (h : bndOk a = true) (h0 : k ≠ 0) (hp : l[k - 1]? = some p) (hr : 0 ≤ refsC p a) : bndE (prevL l k) a = 14 := by
  unfold bndE; rw [if_neg (by simp [h]), prevL_pos h0 hp, if_neg (by simp [behind]; omega)]
theorem bndE_0 {p a : Bnd} {l : List Bnd} {k : Nat} (h : bndOk a = true) (h0 : k ≠ 0) (hp : l[k - 1]? = some p) (hr : refsC p a < 0) : bndE (prevL l k) a = 0 := by
  unfold bndE; rw [if_neg (by simp [h]), prevL_pos h0 hp, if_pos (by simp [behind]; omega)]
theorem bndE_first {a : Bnd} {l : List Bnd} {k : Nat} (h : bndOk a = true) (h0 : k = 0) : bndE (prevL l k) a = 0 := by
  subst h0; unfold bndE; rw [if_neg (by simp [h])]; rfl

theorem within_any (n m : Int) (w : World) : Calls Tryd.prog 20 #[.int .i64 n, .int .i64 m] w fun e w' => e = .returned (.bool (inI n m)) ∧ w = w' := by
  unfold inI
  by_cases h1 : 0 ≤ n
  · by_cases h2 : n ≤ m
    · go_enter Tryd.func20, Tryd.ntmps20
      go_wp2
      go_ret
      exact ⟨by simp [h1, h2], rfl⟩
    · go_enter Tryd.func20, Tryd.ntmps20
      go_wp2
      go_ret
      exact ⟨by simp [h2], rfl⟩
  · go_enter Tryd.func20, Tryd.ntmps20
    go_wp2
    go_ret
    exact ⟨by simp; omega, rfl⟩


end Go.Proofs.YtclpglgigpjfoaaDoor
