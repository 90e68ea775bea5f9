/- How events, items and queues lie in memory: plain definitions and their frame laws. -/
import Derived.Test.YteonfoaemljndaaBase
namespace Go.Proofs.Yteonfoaemljndaa
open Go.RowKit

/-- a slice value v of elements of sz cells each reads as the list l -/
def Sl {α : Type} (R : World → Nat → Nat → α → Prop) (sz : Nat) (w : World) (v : Value) (l : List α) : Prop :=
  ∃ A c, v = .slice A l.length c ∧ l.length ≤ c ∧ c ≤ maxLen ∧ ∀ k x, l[k]? = some x → ∃ b o, A = some ⟨b, o, none⟩ ∧ R w b (o + k * sz) x

/-- a reading of cells that stays while memory grows -/
def Stays {α : Type} (R : World → Nat → Nat → α → Prop) : Prop := ∀ w w' b p x, Below w.heap.size w w' → R w b p x → R w' b p x

theorem Sl.stays {α : Type} {R : World → Nat → Nat → α → Prop} {sz : Nat} {w w' : World} {v : Value} {l : List α} (h : Sl R sz w v l) (hR : Stays R) (hb : Below w.heap.size w w') : Sl R sz w' v l := by
  obtain ⟨A, c, hv, h1, h2, h3⟩ := h
  refine ⟨A, c, hv, h1, h2, fun k x hk => ?_⟩
  obtain ⟨b, o, hA, hx⟩ := h3 k x hk
  exact ⟨b, o, hA, hR _ _ _ _ _ hb hx⟩

theorem Sl.nil {α : Type} (R : World → Nat → Nat → α → Prop) (sz : Nat) (w : World) (A : Option Addr) (c : Nat) (hc : c ≤ maxLen) : Sl R sz w (.slice A 0 c) ([] : List α) :=
  ⟨A, c, rfl, by simp, hc, by simp⟩

def cmpI (a b : Int) : Int := if a < b then -1 else if b < a then 1 else 0
def orI (a b : Int) : Int := if a = 0 then b else a

structure Val where
  kind : Int
  num : Int
  text : ByteArray

structure Item where
  kind : Int
  source : Int
  seq : Int
  type : Int
  time : Int
  values : List Val
  number : Int

structure Queue where
  frm : Int
  to : Int
  items : List Item

def ValAt (w : World) (b p : Nat) (x : Val) : Prop :=
  w.cell? ⟨b, p, none⟩ = some (.int .i64 x.kind) ∧ w.cell? ⟨b, p + 1, none⟩ = some (.int .i64 x.num) ∧ w.cell? ⟨b, p + 2, none⟩ = some (.string x.text)

def ItemAt (w : World) (b p : Nat) (x : Item) : Prop := ∃ v, Sl ValAt 3 w v x.values ∧
  w.cell? ⟨b, p, none⟩ = some (.int .i64 x.kind) ∧ w.cell? ⟨b, p + 1, none⟩ = some (.int .i64 x.source) ∧ w.cell? ⟨b, p + 2, none⟩ = some (.int .i64 x.seq) ∧
  w.cell? ⟨b, p + 3, none⟩ = some (.int .i64 x.type) ∧ w.cell? ⟨b, p + 4, none⟩ = some (.int .i64 x.time) ∧ w.cell? ⟨b, p + 5, none⟩ = some v ∧ w.cell? ⟨b, p + 6, none⟩ = some (.int .i64 x.number)

def QueueAt (w : World) (b p : Nat) (q : Queue) : Prop := ∃ v, Sl ItemAt 7 w v q.items ∧
  w.cell? ⟨b, p, none⟩ = some (.int .i64 q.frm) ∧ w.cell? ⟨b, p + 1, none⟩ = some (.int .i64 q.to) ∧ w.cell? ⟨b, p + 2, none⟩ = some v

def IntAt (w : World) (b p : Nat) (x : Int) : Prop := w.cell? ⟨b, p, none⟩ = some (.int .i64 x)

theorem valAt_stays : Stays ValAt := fun _ _ _ _ _ hb ⟨h0, h1, h2⟩ => ⟨cell_stays hb h0, cell_stays hb h1, cell_stays hb h2⟩
theorem itemAt_stays : Stays ItemAt := fun _ _ _ _ _ hb ⟨v, hv, h0, h1, h2, h3, h4, h5, h6⟩ =>
  ⟨v, hv.stays valAt_stays hb, cell_stays hb h0, cell_stays hb h1, cell_stays hb h2, cell_stays hb h3, cell_stays hb h4, cell_stays hb h5, cell_stays hb h6⟩
theorem queueAt_stays : Stays QueueAt := fun _ _ _ _ _ hb ⟨v, hv, h0, h1, h2⟩ => ⟨v, hv.stays itemAt_stays hb, cell_stays hb h0, cell_stays hb h1, cell_stays hb h2⟩
theorem intAt_stays : Stays IntAt := fun _ _ _ _ _ hb h => cell_stays hb h

abbrev IsVals (w : World) (v : Value) (l : List Val) : Prop := Sl ValAt 3 w v l
abbrev IsItems (w : World) (v : Value) (l : List Item) : Prop := Sl ItemAt 7 w v l
abbrev IsQueues (w : World) (v : Value) (l : List Queue) : Prop := Sl QueueAt 3 w v l
abbrev IsInts (w : World) (v : Value) (l : List Int) : Prop := Sl IntAt 1 w v l

/-- an item by value -/
def itemV (x : Item) (v : Value) : Value := .agg #[.int .i64 x.kind, .int .i64 x.source, .int .i64 x.seq, .int .i64 x.type, .int .i64 x.time, v, .int .i64 x.number]

/-! ### what the chapter says -/
def emptyB (x : Item) : Bool := x.source == 0 && (x.seq == 0 && (x.type == 0 && (x.time == 0 && ((x.values.length : Int) == 0))))
def itemErr (x : Item) : Int :=
  if x.kind = 0 then (if x.number = 0 then 0 else 2)
  else if x.kind = 1 then (if x.number < 0 ∨ 1099511627776 < x.number then 2 else if emptyB x = true then 0 else 3)
  else if x.kind = 2 then (if x.number < 1 ∨ 1099511627776 < x.number then 2 else if emptyB x = true then 0 else 3)
  else 1
def itemsErr : List Item → Int
  | [] => 0
  | x :: l => if itemErr x = 0 then itemsErr l else itemErr x
/-- a comes before b -/
def ltQ (a b : Queue) : Prop := a.frm < b.frm ∨ a.frm = b.frm ∧ a.to < b.to
instance (a b : Queue) : Decidable (ltQ a b) := by unfold ltQ; infer_instance
def badQ (q : Queue) : Bool := decide (q.frm < 0) || (decide (8 ≤ q.frm) || (decide (q.to < 0) || decide (8 ≤ q.to)))
def afterQ (p : Option Queue) (q : Queue) : Bool := match p with
  | none => true
  | some p => decide (ltQ p q)
def qErr (p : Option Queue) (q : Queue) : Int :=
  if badQ q = true then 2 else if afterQ p q = false then 14 else if 4096 < (q.items.length : Int) then 5 else itemsErr q.items
def checkFrom : Option Queue → List Queue → Int
  | _, [] => 0
  | p, q :: l => if qErr p q = 0 then checkFrom (some q) l else qErr p q
def checkErr (l : List Queue) : Int := checkFrom none l
def prevQ (l : List Queue) : Nat → Option Queue
  | 0 => none
  | k + 1 => l[k]?
theorem check_step (l : List Queue) (k : Nat) (x : Queue) (h : l[k]? = some x) (hi : checkFrom (prevQ l k) (l.drop k) = checkErr l) :
    checkErr l = if qErr (prevQ l k) x = 0 then checkFrom (prevQ l (k + 1)) (l.drop (k + 1)) else qErr (prevQ l k) x := by
  rw [← hi]
  have h' : prevQ l (k + 1) = some x := h
  obtain ⟨hk, rfl⟩ := List.getElem?_eq_some_iff.1 h
  rw [List.drop_eq_getElem_cons hk, checkFrom, h']
theorem check_go (l : List Queue) (k : Nat) (x : Queue) (h : l[k]? = some x) (hi : checkFrom (prevQ l k) (l.drop k) = checkErr l) (h0 : qErr (prevQ l k) x = 0) :
    checkFrom (prevQ l (k + 1)) (l.drop (k + 1)) = checkErr l := by
  rw [check_step l k x h hi, if_pos h0]
theorem check_stop (l : List Queue) (k : Nat) (x : Queue) (h : l[k]? = some x) (hi : checkFrom (prevQ l k) (l.drop k) = checkErr l) {n : Int} (h0 : qErr (prevQ l k) x = n) (hn : n ≠ 0) : n = checkErr l := by
  rw [check_step l k x h hi, h0, if_neg hn]
theorem check_end (l : List Queue) (k : Nat) (h : l.length ≤ k) (hi : checkFrom (prevQ l k) (l.drop k) = checkErr l) : 0 = checkErr l := by
  rw [← hi, List.drop_of_length_le h]; cases prevQ l k <;> rfl
theorem ord_lt (p q : Queue) (h : orI (cmpI p.frm q.frm) (cmpI p.to q.to) < 0) : ltQ p q := by
  unfold orI cmpI at h; unfold ltQ
  (repeat' split at h) <;> omega
theorem ord_ge (p q : Queue) (h : 0 ≤ orI (cmpI p.frm q.frm) (cmpI p.to q.to)) : ¬ ltQ p q := by
  unfold orI cmpI at h; unfold ltQ
  (repeat' split at h) <;> omega
theorem qErr_14 {p : Option Queue} {q : Queue} (hb : ¬ badQ q = true) (ha : afterQ p q = false) : qErr p q = 14 := by simp [qErr, hb, ha]
theorem qErr_5 {p : Option Queue} {q : Queue} (hb : ¬ badQ q = true) (ha : afterQ p q = true) (hn : 4096 < (q.items.length : Int)) : qErr p q = 5 := by simp [qErr, hb, ha, hn]
theorem qErr_it {p : Option Queue} {q : Queue} (hb : ¬ badQ q = true) (ha : afterQ p q = true) (hn : (q.items.length : Int) ≤ 4096) : qErr p q = itemsErr q.items := by
  unfold qErr; rw [if_neg hb, if_neg (by rw [ha]; simp), if_neg (by omega)]
theorem prevQ_pos {l : List Queue} {k : Nat} (hk : ¬ k = 0) (hl : k < l.length) {p : Queue} (hp : p = l[k - 1]) : prevQ l k = some p := by
  cases k with
  | zero => exact absurd rfl hk
  | succ k => subst hp; exact List.getElem?_eq_getElem (by omega)
theorem prevQ_zero {l : List Queue} {k : Nat} (hk : k = 0) : prevQ l k = none := by subst hk; rfl
end Go.Proofs.Yteonfoaemljndaa
