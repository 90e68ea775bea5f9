/- The examples of the law: what is reckoned of them, in plain Lean. -/
import Derived.Test.YtclpglgigpjfoaaGreatDoorQMbind
import Derived.Test.YtclpglgigpjfoaaGreatDoorQMev
import Derived.Test.YtclpglgigpjfoaaGreatDoorQMfmtp
import Derived.Test.YtclpglgigpjfoaaGreatDoorQMspan
import Derived.Test.YtclpglgigpjfoaaGreatDoorQKcomp
namespace Go.Proofs.YtclpglgigpjfoaaGreatDoor
open Go.RowKit Go.Lib

def exM : List Bnd := [⟨1, 3, 0, 1⟩, ⟨0, 5, 0, 2⟩]
def exA : List Bnd := [⟨0, 3, 0, 1⟩]
def exB : List Bnd := [⟨1, 3, 0, 1⟩]
def exO : List Bnd := [⟨0, 5, 0, 2⟩, ⟨1, 3, 0, 1⟩]
def exN : List Bnd := [⟨0, 4, 0, 0⟩]
def exNs : List Nv := [⟨⟨#[120]⟩, 0⟩, ⟨⟨#[121]⟩, 0⟩]
theorem exM_is : [((1 : Int), 0), (0, 2)].map bindB = exM := rfl
theorem exO_is : [((0 : Int), 2), (1, 0)].map bindB = exO := rfl
theorem exA_is : [((0 : Int), 0)].map bindB = exA := rfl
theorem exB_is : [((1 : Int), 0)].map bindB = exB := rfl
theorem exM_ok : matErr exM = 0 := by decide
theorem exO_err : matErr exO = 14 := by decide
theorem ex_span : spanR exM = (3, 5, 0) := by decide
theorem ex_env : envR evs3 2 exM = ([[⟨0, 2, 0, 5, []⟩], [⟨0, 1, 0, 3, []⟩]], 0) := by rfl
theorem ex_none : envR evs3 1 exN = ([], 6) := by rfl
theorem ex_cmp1 : bsC exA exB = -1 := by decide
theorem ex_cmp2 : bsC exM exB = 1 := by decide
theorem ex_sort : sortR [exM, exB, exA, exM] = ([exA, exB, exM], 0) := by rfl
theorem ex_dig (n : Nat) (h : n < 10) : itoa (n : Int) = [UInt8.ofNat (48 + n)] := by
  unfold itoa
  rw [if_neg (by omega)]
  have : ((n : Int)).toNat = n := by omega
  rw [this]
  match n, h with
  | 0, _ => simp [decDigits]
  | 1, _ => simp [decDigits]
  | 2, _ => simp [decDigits]
  | 3, _ => simp [decDigits]
  | 4, _ => simp [decDigits]
  | 5, _ => simp [decDigits]
  | 6, _ => simp [decDigits]
  | 7, _ => simp [decDigits]
  | 8, _ => simp [decDigits]
  | 9, _ => simp [decDigits]
theorem ex_part1 : partE exNs ⟨1, 3, 0, 1⟩ = (⟨#[121, 64, 51, 47, 48, 47, 49]⟩, 0) := by
  have h3 := ex_dig 3 (by decide)
  have h0 := ex_dig 0 (by decide)
  have h1 := ex_dig 1 (by decide)
  have e1 : itoaB 3 = ⟨#[51]⟩ := by unfold itoaB; rw [show (3 : Int) = ((3 : Nat) : Int) from rfl, h3]; rfl
  have e2 : itoaB 0 = ⟨#[48]⟩ := by unfold itoaB; rw [show (0 : Int) = ((0 : Nat) : Int) from rfl, h0]; rfl
  have e3 : itoaB 1 = ⟨#[49]⟩ := by unfold itoaB; rw [show (1 : Int) = ((1 : Nat) : Int) from rfl, h1]; rfl
  unfold partE
  rw [if_neg (by decide), if_neg (by decide)]
  unfold textB
  rw [e1, e2, e3]
  rfl
theorem ex_part2 : partE exNs ⟨0, 5, 0, 2⟩ = (⟨#[120, 64, 53, 47, 48, 47, 50]⟩, 0) := by
  have h3 := ex_dig 5 (by decide)
  have h0 := ex_dig 0 (by decide)
  have h1 := ex_dig 2 (by decide)
  have e1 : itoaB 5 = ⟨#[53]⟩ := by unfold itoaB; rw [show (5 : Int) = ((5 : Nat) : Int) from rfl, h3]; rfl
  have e2 : itoaB 0 = ⟨#[48]⟩ := by unfold itoaB; rw [show (0 : Int) = ((0 : Nat) : Int) from rfl, h0]; rfl
  have e3 : itoaB 2 = ⟨#[50]⟩ := by unfold itoaB; rw [show (2 : Int) = ((2 : Nat) : Int) from rfl, h1]; rfl
  unfold partE
  rw [if_neg (by decide), if_neg (by decide)]
  unfold textB
  rw [e1, e2, e3]
  rfl
def exText : ByteArray := ⟨#[121, 64, 51, 47, 48, 47, 49, 32, 120, 64, 53, 47, 48, 47, 50]⟩
theorem ex_fmt : formatR exNs exM = (exText, 0) := by
  have hp : exM.map (partE exNs) = [(⟨#[121, 64, 51, 47, 48, 47, 49]⟩, 0), (⟨#[120, 64, 53, 47, 48, 47, 50]⟩, 0)] := by
    unfold exM
    rw [List.map_cons, List.map_cons, List.map_nil, ex_part1, ex_part2]
  rw [formatR_ok exM_ok (by rw [hp]; rfl), hp]
  rfl
end Go.Proofs.YtclpglgigpjfoaaGreatDoor
