/- Expressions: how they lie in memory, and their reading. -/
import Derived.Test.YtclpglgigpjfoaaGreatDoorQMval
import Derived.Test.YtclpglgigpjfoaaGreatDoorQMfmtp
namespace Go.Proofs.YtclpglgigpjfoaaGreatDoor
open Go.ChangeShapes Go.WideShapes Go.ChangeAt Go.RowKit Go.Deep

inductive Ex
  | mk (op : Int) (args : List Ex) (vr fl kd : Int) (val : Vl)
def Ex.op : Ex → Int | .mk a _ _ _ _ _ => a
def Ex.args : Ex → List Ex | .mk _ a _ _ _ _ => a
def Ex.vr : Ex → Int | .mk _ _ a _ _ _ => a
def Ex.fl : Ex → Int | .mk _ _ _ a _ _ => a
def Ex.kd : Ex → Int | .mk _ _ _ _ a _ => a
def Ex.val : Ex → Vl | .mk _ _ _ _ _ a => a
mutual
def nodesN : Ex → Nat
  | .mk _ l _ _ _ _ => 1 + nodesL l
def nodesL : List Ex → Nat
  | [] => 0
  | a :: r => nodesN a + nodesL r
end
theorem nodesN_eq (x : Ex) : nodesN x = 1 + nodesL x.args := by cases x; rw [nodesN]; rfl
theorem nodesL_sum (l : List Ex) : nodesL l = (l.map nodesN).sum := by
  induction l with
  | nil => rw [nodesL]; rfl
  | cons a r ih => rw [nodesL, ih]; rfl
def ExAt : Nat → World → Nat → Nat → Ex → Prop
  | 0 => fun _ _ _ _ => False
  | d + 1 => fun w b p x => ∃ v, Sl (ExAt d) 8 w v x.args ∧ w.cell? ⟨b, p, none⟩ = some (.int .i64 x.op) ∧ w.cell? ⟨b, p + 1, none⟩ = some v ∧
      w.cell? ⟨b, p + 2, none⟩ = some (.int .i64 x.vr) ∧ w.cell? ⟨b, p + 3, none⟩ = some (.int .i64 x.fl) ∧ w.cell? ⟨b, p + 4, none⟩ = some (.int .i64 x.kd) ∧ VlAt w b (p + 5) x.val
theorem exAt_stays (d : Nat) : Stays (ExAt d) := by
  induction d with
  | zero => exact fun _ _ _ _ _ _ h => h
  | succ d ih => exact fun _ _ _ _ _ hb ⟨v, hv, h0, h1, h2, h3, h4, h5⟩ => ⟨v, hv.stays ih hb, cell_stays hb h0, cell_stays hb h1, cell_stays hb h2, cell_stays hb h3, cell_stays hb h4, vlAt_stays _ _ _ _ _ hb h5⟩
theorem sl_weak {α : Type} {R S : World → Nat → Nat → α → Prop} {sz : Nat} {w : World} {v : Value} {l : List α} (hRS : ∀ b p x, R w b p x → S w b p x) (h : Sl R sz w v l) : Sl S sz w v l := by
  obtain ⟨A, c, e, h1, h2, h3⟩ := h
  exact ⟨A, c, e, h1, h2, fun k x hk => by obtain ⟨b, o, e, hr⟩ := h3 k x hk; exact ⟨b, o, e, hRS _ _ _ hr⟩⟩
theorem exAt_succ (d : Nat) : ∀ (w : World) (b p : Nat) (x : Ex), ExAt d w b p x → ExAt (d + 1) w b p x := by
  induction d with
  | zero => exact fun _ _ _ _ h => h.elim
  | succ d ih => exact fun w b p x ⟨v, hv, h⟩ => ⟨v, sl_weak (fun b p x => ih w b p x) hv, h⟩
theorem exAt_le {d e : Nat} (h : d ≤ e) {w : World} {b p : Nat} {x : Ex} (hx : ExAt d w b p x) : ExAt e w b p x := by
  induction h with
  | refl => exact hx
  | step _ ih => exact exAt_succ _ _ _ _ _ ih
abbrev IsExs (d : Nat) (w : World) (v : Value) (l : List Ex) : Prop := Sl (ExAt d) 8 w v l
/-- an expression by value -/
def exV (x : Ex) (v : Value) : Value := .agg #[.int .i64 x.op, v, .int .i64 x.vr, .int .i64 x.fl, .int .i64 x.kd, .int .i64 x.val.kind, .int .i64 x.val.num, .string x.val.text]

theorem cells_ex : Tryz.prog.cellsOf 90 = 8 := by kernel_rfl
theorem cells_exs : Tryz.prog.cellsOf 86 = 1 := by kernel_rfl
theorem list6 {α : Type} {l : List α} (h : l.length = 6) : ∃ a b c d e f, l = [a, b, c, d, e, f] := by
  match l, h with
  | [a, b, c, d, e, f], _ => exact ⟨a, b, c, d, e, f, rfl⟩
theorem list8 {α : Type} {l : List α} (h : l.length = 8) : ∃ a b c d e f g i, l = [a, b, c, d, e, f, g, i] := by
  match l, h with
  | [a, b, c, d, e, f, g, i], _ => exact ⟨a, b, c, d, e, f, g, i, rfl⟩
theorem bulk_one {H : Type} (d : DataW H) : 1 ≤ Rows.uptoBulk d := by
  cases d with
  | lit l => cases l <;> simp [Rows.uptoBulk]
  | nil => simp [Rows.uptoBulk]
  | ptr d => simp [Rows.uptoBulk]
  | slice elems spare => simp [Rows.uptoBulk]
  | agg parts => simp [Rows.uptoBulk]
  | iface t d => simp [Rows.uptoBulk]
  | map entries => simp [Rows.uptoBulk]
  | held h => simp [Rows.uptoBulk]
theorem bulk_part {H : Type} {d : DataW H} {l : List (DataW H)} (h : d ∈ l) : Rows.uptoBulk d ≤ Rows.uptoBulkAll l := by
  induction l with
  | nil => cases h
  | cons x r ih =>
    simp only [Rows.uptoBulkAll]
    cases List.mem_cons.1 h with
    | inl e => subst e; omega
    | inr e => have := ih e; omega
theorem bulk_sum {H α : Type} (m : α → Nat) : ∀ (l : List α) (ds : List (DataW H)), l.length = ds.length → (∀ (k : Nat) (x : α) (d : DataW H), l[k]? = some x → ds[k]? = some d → m x ≤ Rows.uptoBulk d) → (l.map m).sum ≤ Rows.uptoBulkAll ds
  | [], _, _, _ => by simp
  | a :: l, [], h, _ => by simp at h
  | a :: l, d :: ds, h, hk => by
    have h1 := bulk_sum m l ds (by simpa using h) (fun k x d hx hd => hk (k + 1) x d (by simpa using hx) (by simpa using hd))
    have h2 := hk 0 a d rfl rfl
    simp only [Rows.uptoBulkAll, List.map_cons, List.sum_cons]
    omega
section
variable {H : Type} {enc : TypeId × Value → H} {P : Program} {w : World} {base : Nat} {spare : Nat → Bool} {held : Bool}
/-- a slice whose elements are read at the lesser fuel, and its bulk -/
theorem open_slb {α : Type} {R : World → Nat → Nat → α → Prop} {m : α → Nat} {sz : Nat} {t e : TypeId} (ht : P.underlying t = some (.slice e)) (hsz : P.cellsOf e = sz) (hpos : 0 < sz)
    {fuel : Nat} (hR : ∀ (n b o : Nat) (cs : List Value) (y : DataW H × List MemPlace), n < fuel → cs.length = sz → (∀ (j : Nat) (u : Value), cs[j]? = some u → w.cell? ⟨b, o + j, none⟩ = some u) → DataW.trod enc P w base spare held n e cs = some y → ∃ x, R w b o x ∧ m x ≤ Rows.uptoBulk y.1)
    {v : Value} {y : DataW H × List MemPlace} (h : DataW.trod enc P w base spare held fuel t [v] = some y) : ∃ l : List α, Sl R sz w v l ∧ (l.map m).sum + 1 ≤ Rows.uptoBulk y.1 := by
  rcases DataW.trod_slice ht h with ⟨hcs, hy⟩ | ⟨a, len, cap, elems, rest, n, rfl, hcs, hy, _, hl, hm, hlen, hi, _⟩
  · simp only [List.cons.injEq, and_true] at hcs
    subst hcs
    exact ⟨[], Sl.nil _ _ _ _ _ (Nat.zero_le _), bulk_one _⟩
  · simp only [List.cons.injEq, and_true] at hcs
    subst hcs
    subst hy
    have hb : ∀ l : List α, l.length = len → (∀ (k : Nat) (x : α) (d : DataW H × List MemPlace), l[k]? = some x → elems[k]? = some d → m x ≤ Rows.uptoBulk d.1) → (l.map m).sum + 1 ≤ Rows.uptoBulk (DataW.slice (elems.map (·.1)) (rest.map (·.1))) := by
      intro l hl hk
      have := bulk_sum m l (elems.map (·.1)) (by simp [hl, hlen]) (fun k x d hx hd => by
        rw [List.getElem?_map, Option.map_eq_some_iff] at hd
        obtain ⟨d', hd', rfl⟩ := hd
        exact hk k x d' hx hd')
      simp only [Rows.uptoBulk]
      omega
    rcases Nat.eq_zero_or_pos len with h0 | h0
    · subst h0
      exact ⟨[], Sl.nil _ _ _ _ _ hm, hb [] rfl (fun k x d hx => by simp at hx)⟩
    · have hat : ∀ i, i < len → ∃ cs' d, elems[i]? = some d ∧ w.cells? base (a.add (i * sz)) sz = some cs' ∧ DataW.trod enc P w base spare held n e cs' = some d := by
        intro i hil
        have h1 := hi i hil
        rw [List.getElem?_eq_getElem (by omega), Option.bind_eq_some_iff] at h1
        obtain ⟨cs', h2, h3⟩ := h1
        rw [hsz] at h2
        exact ⟨cs', _, List.getElem?_eq_getElem (by omega), h2, h3⟩
      have hspot : ∃ b o, a = ⟨b, o, none⟩ := by
        obtain ⟨cs', _, _, hc, _⟩ := hat 0 h0
        obtain ⟨_, hcl, hat⟩ := World.cells?_some hc
        have h2 := hat 0 hpos
        rw [List.getElem?_eq_getElem (by omega)] at h2
        have h3 := World.cell?_spot h2
        obtain ⟨b, o, sp⟩ := a
        simp only [Addr.add, Nat.zero_mul, if_true] at h3
        exact ⟨b, o, by simpa using h3⟩
      obtain ⟨b, o, rfl⟩ := hspot
      obtain ⟨l, hll, hlp⟩ := exists_list (fun k x => R w b (o + k * sz) x ∧ ∀ d, elems[k]? = some d → m x ≤ Rows.uptoBulk d.1) len (fun i hil => by
        obtain ⟨cs', d, hd, hc, htr⟩ := hat i hil
        obtain ⟨_, hcl, hat⟩ := World.cells?_some hc
        obtain ⟨x, hx, hm⟩ := hR n b (o + i * sz) cs' _ (Nat.lt_succ_self _) hcl (fun j u hj => by
          have h4 := hat j (by have := (List.getElem?_eq_some_iff.1 hj).1; omega)
          rw [addr_add, addr_add, hj] at h4
          exact h4) htr
        exact ⟨x, hx, fun d' hd' => by rw [hd] at hd'; cases hd'; exact hm⟩)
      exact ⟨l, ⟨some ⟨b, o, none⟩, cap, by rw [hll], by omega, hm, fun k x hk => ⟨b, o, rfl, (hlp k x hk).1⟩⟩, hb l hll (fun k x d hx hd => (hlp k x hx).2 d hd)⟩
end
section
variable {H : Type} {enc : TypeId × Value → H} {w : World} {base : Nat} {spare : Nat → Bool} {held : Bool}
set_option maxRecDepth 100000 in
/-- an expression out of its cells: its arguments, and its number of nodes -/
theorem read_ex (fuel : Nat) : ∀ (n : Nat), n ≤ fuel → ∀ (b o : Nat) (cs : List Value) (y : DataW H × List MemPlace), cs.length = 8 → (∀ (j : Nat) (u : Value), cs[j]? = some u → w.cell? ⟨b, o + j, none⟩ = some u) →
    DataW.trod enc Tryz.prog w base spare held n 90 cs = some y → ∃ x, ExAt fuel w b o x ∧ nodesN x ≤ Rows.uptoBulk y.1 := by
  induction fuel with
  | zero =>
    intro n hn b o cs y hl hc h
    obtain ⟨xs, m, hm, _⟩ := DataW.trod_struct Tryz.underlying90 h
    omega
  | succ fuel ih =>
    intro n hn b o cs y hl hc h
    obtain ⟨c0, c1, c2, c3, c4, c5, c6, c7, rfl⟩ := list8 hl
    obtain ⟨xs, m, hm, hy, _, hxl, hf⟩ := DataW.trod_struct Tryz.underlying90 h
    obtain ⟨x0, x1, x2, x3, x4, x5, rfl⟩ := list6 (by simpa using hxl)
    have f0 := hf 0 _ rfl
    have f1 := hf 1 _ rfl
    have f2 := hf 2 _ rfl
    have f3 := hf 3 _ rfl
    have f4 := hf 4 _ rfl
    have f5 := hf 5 _ rfl
    simp [cells_int, cells_exs, cells_vl] at f0 f1 f2 f3 f4 f5
    obtain ⟨k0, e0, _⟩ := DataW.trod_int Tryz.underlying3 f0
    obtain ⟨k2, e2, _⟩ := DataW.trod_int Tryz.underlying3 f2
    obtain ⟨k3, e3, _⟩ := DataW.trod_int Tryz.underlying3 f3
    obtain ⟨k4, e4, _⟩ := DataW.trod_int Tryz.underlying3 f4
    obtain ⟨vl, hvl⟩ := read_vl m b (o + 5) _ x5 rfl (fun j u hj => by have := hc (j + 5) u (by simpa using hj); rw [Nat.add_assoc, Nat.add_comm 5 j]; exact this) f5
    obtain ⟨l, hsl, hbk⟩ := open_slb (m := nodesN) Tryz.underlying86 cells_ex (by decide) (fun n b o cs y hn h1 h2 h3 => ih n (by omega) b o cs y h1 h2 h3) f1
    simp only [List.cons.injEq, and_true] at e0 e2 e3 e4
    subst e0 e2 e3 e4
    refine ⟨.mk k0 l k2 k3 k4 vl, ⟨c1, hsl, hc 0 _ rfl, hc 1 _ rfl, hc 2 _ rfl, hc 3 _ rfl, hc 4 _ rfl, hvl⟩, ?_⟩
    subst hy
    rw [nodesN_eq, show (Ex.mk k0 l k2 k3 k4 vl).args = l from rfl, nodesL_sum]
    have h1 := bulk_part (d := x1.1) (l := [x0.1, x1.1, x2.1, x3.1, x4.1, x5.1]) (by simp)
    simp only [Rows.uptoBulk, List.map_cons, List.map_nil]
    omega
set_option maxRecDepth 100000 in
/-- a list of expressions -/
theorem read_exs {fuel : Nat} {v : Value} {y : DataW H × List MemPlace} (h : DataW.trod enc Tryz.prog w base spare held fuel 86 [v] = some y) : ∃ l, IsExs fuel w v l ∧ (l.map nodesN).sum + 1 ≤ Rows.uptoBulk y.1 :=
  open_slb (m := nodesN) Tryz.underlying86 cells_ex (by decide) (fun n b o cs y hn h1 h2 h3 => read_ex fuel n (by omega) b o cs y h1 h2 h3) h
end
end Go.Proofs.YtclpglgigpjfoaaGreatDoor
namespace Go.Proofs.YtclpglgigpjfoaaGreatDoor
open Go.RowKit

theorem wrap_nat {n : Nat} (h : n ≤ 1099511627776) : IntKind.i64.wrap (n : Int) = (n : Int) := by
  simp [IntKind.wrap, IntKind.bits, IntKind.signed]
  omega
mutual
def countN (lim : Nat) : Ex → Nat
  | .mk _ l _ _ _ _ => countL lim 1 l
def countL (lim : Nat) (n : Nat) : List Ex → Nat
  | [] => n
  | a :: r => if n ≤ lim then countL lim (n + countN lim a) r else n
end
mutual
def depthN : Ex → Nat
  | .mk _ l _ _ _ _ => depthL l + 1
def depthL : List Ex → Nat
  | [] => 0
  | a :: r => max (depthN a) (depthL r)
end
theorem countN_eq (lim : Nat) (x : Ex) : countN lim x = countL lim 1 x.args := by cases x; rw [countN]; rfl
theorem depthN_eq (x : Ex) : depthN x = depthL x.args + 1 := by cases x; rw [depthN]; rfl
mutual
theorem countN_le (lim : Nat) : ∀ x, countN lim x ≤ nodesN x
  | .mk o l a b c v => by
    have := countL_le lim 1 l
    rw [countN, nodesN]
    exact this
theorem countL_le (lim n : Nat) : ∀ l, countL lim n l ≤ n + nodesL l
  | [] => by rw [countL]; omega
  | a :: r => by
    rw [countL, nodesL]
    split
    · have := countN_le lim a
      have := countL_le lim (n + countN lim a) r
      omega
    · omega
end
theorem countL_ge (lim : Nat) : ∀ (l : List Ex) (n : Nat), n ≤ countL lim n l
  | [], n => by rw [countL]; omega
  | a :: r, n => by
    rw [countL]
    split
    · have := countL_ge lim r (n + countN lim a); omega
    · omega
mutual
theorem countN_few (lim : Nat) : ∀ x, countN lim x ≤ lim → countN lim x = nodesN x
  | .mk o l a b c v => by
    have := countL_few lim 1 l
    rw [countN, nodesN]
    exact this
theorem countL_few (lim n : Nat) : ∀ l, countL lim n l ≤ lim → countL lim n l = n + nodesL l
  | [] => by rw [countL, nodesL]; omega
  | a :: r => by
    rw [countL, nodesL]
    split
    · intro h
      have h1 := countL_ge lim r (n + countN lim a)
      have := countN_few lim a (by omega)
      have := countL_few lim (n + countN lim a) r h
      omega
    · omega
end
/-- stopping early or not: the same answer to 'at most so many' -/
theorem countN_iff (lim : Nat) (x : Ex) : countN lim x ≤ lim ↔ nodesN x ≤ lim := by
  constructor
  · intro h; rw [← countN_few lim x h]; exact h
  · intro h; exact Nat.le_trans (countN_le lim x) h
mutual
theorem depthN_le : ∀ x, depthN x ≤ nodesN x
  | .mk o l a b c v => by
    have := depthL_le l
    rw [depthN, nodesN]
    omega
theorem depthL_le : ∀ l, depthL l ≤ nodesL l
  | [] => by rw [depthL]; omega
  | a :: r => by
    have := depthN_le a
    have := depthL_le r
    rw [depthL, nodesL]
    omega
end
theorem nodesL_drop {l : List Ex} {k : Nat} {a : Ex} (h : l[k]? = some a) : nodesL (l.drop k) = nodesN a + nodesL (l.drop (k + 1)) := by
  obtain ⟨h1, rfl⟩ := List.getElem?_eq_some_iff.1 h
  rw [List.drop_eq_getElem_cons h1, nodesL]
theorem depthL_drop {l : List Ex} {k : Nat} {a : Ex} (h : l[k]? = some a) : depthL (l.drop k) = max (depthN a) (depthL (l.drop (k + 1))) := by
  obtain ⟨h1, rfl⟩ := List.getElem?_eq_some_iff.1 h
  rw [List.drop_eq_getElem_cons h1, depthL]
theorem countL_drop {lim n : Nat} {l : List Ex} {k : Nat} {a : Ex} (h : l[k]? = some a) : countL lim n (l.drop k) = if n ≤ lim then countL lim (n + countN lim a) (l.drop (k + 1)) else n := by
  obtain ⟨h1, rfl⟩ := List.getElem?_eq_some_iff.1 h
  rw [List.drop_eq_getElem_cons h1, countL]
theorem nodesL_at {l : List Ex} {k : Nat} {a : Ex} (h : l[k]? = some a) : nodesN a ≤ nodesL l := by
  induction l generalizing k with
  | nil => simp at h
  | cons b r ih =>
    rw [nodesL]
    cases k with
    | zero => simp at h; subst h; omega
    | succ k => have := ih (k := k) (by simpa using h); omega
/-- an element's cells -/
theorem ex_open {d : Nat} {w : World} {b p : Nat} {x : Ex} (h : ExAt d w b p x) : ∃ d' v, d = d' + 1 ∧ IsExs d' w v x.args ∧ w.cell? ⟨b, p, none⟩ = some (.int .i64 x.op) ∧ w.cell? ⟨b, p + 1, none⟩ = some v ∧
    w.cell? ⟨b, p + 2, none⟩ = some (.int .i64 x.vr) ∧ w.cell? ⟨b, p + 3, none⟩ = some (.int .i64 x.fl) ∧ w.cell? ⟨b, p + 4, none⟩ = some (.int .i64 x.kd) ∧
    w.cell? ⟨b, p + 5, none⟩ = some (.int .i64 x.val.kind) ∧ w.cell? ⟨b, p + 6, none⟩ = some (.int .i64 x.val.num) ∧ w.cell? ⟨b, p + 7, none⟩ = some (.string x.val.text) := by
  cases d with
  | zero => exact h.elim
  | succ d =>
    obtain ⟨v, hv, h0, h1, h2, h3, h4, h5, h6, h7⟩ := h
    exact ⟨d, v, rfl, hv, h0, h1, h2, h3, h4, h5, h6, h7⟩

set_option maxRecDepth 100000 in
set_option maxHeartbeats 2000000 in
theorem rcount_step (L d : Nat) (hL : L ≤ 1048576) (hrec : ∀ d', d = d' + 1 → ∀ (x : Ex) (v : Value) (w : World), IsExs d' w v x.args → nodesN x ≤ 1048576 →
      Calls Tryz.prog 78 #[exV x v, .int .i64 L] w fun e w' => e = .returned (.int .i64 (countN L x)) ∧ Below w.heap.size w w')
    (x : Ex) (v : Value) (w : World) (hx : IsExs d w v x.args) (hN : nodesN x ≤ 1048576) :
    Calls Tryz.prog 78 #[exV x v, .int .i64 L] w fun e w' => e = .returned (.int .i64 (countN L x)) ∧ Below w.heap.size w w' := by
  have HREC := Lib.hid hrec
  obtain ⟨op, l, vr, fl, kd, ⟨k0, n0, t0⟩⟩ := x
  rw [countN_eq]
  rw [nodesN_eq] at hN
  obtain ⟨A, c, rfl, h1, h2, hat⟩ := hx
  simp only [Ex.args] at hN h1 h2 hat ⊢
  have hn63 := len_i64 h1 h2
  have HL := Lib.hid hat
  have HN := Lib.hid hN
  have HLL := Lib.hid hL
  obtain ⟨R, hR⟩ : ∃ R, countL L 1 l = R := ⟨_, rfl⟩
  have HR := Lib.hid hR
  rw [hR]
  unfold exV
  simp only [Ex.op, Ex.vr, Ex.fl, Ex.kd, Ex.val]
  clear hat h1 h2 hR hN hrec hL
  go_enter Tryz.func78, Tryz.ntmps78
  go_wp2
  refine wp_gen fun w1 e1 => ?_
  have y1 : w1.cell? ⟨w.heap.size, 1, none⟩ = some (.slice A l.length c) := by rw [e1]; go_simp
  have hb1 : Below w.heap.size w w1 := by rw [e1]; exact (by repeat (first | exact Below.refl _ _ | assumption | refine Below.drew ?_ | refine bel_al ?_ _ | refine bel_set ?_ (by omega) _ | refine bel_tr ?_ (by assumption)))
  clear e1
  have HB1 := Lib.hid hb1
  clear hb1
  go_loopw [5, 6] (fun n i wr => ∃ k C : Nat, k ≤ l.length ∧ i = .int .i64 k ∧ n = .int .i64 C ∧ Hid (countL L C (l.drop k) = R ∧ C + nodesL (l.drop k) ≤ 1048576 ∧ Below w1.heap.size w1 wr)) (fun n i _ => l.length - (intOf i).toNat)
  case atStart => exact ⟨0, 1, Nat.zero_le _, rfl, rfl, Lib.hid ⟨HR.out, HN.out, Below.refl _ _⟩⟩
  case round =>
    obtain ⟨k, C, hk, rfl, rfl, hI⟩ := hrel
    have hb := hI.out.2.2
    have z1 := cell_stays hb y1
    by_cases hlt : k < l.length
    · have hk' : (k : Int) < (l.length : Int) := by omega
      by_cases hC : C ≤ L
      · have hC' : (C : Int) ≤ (L : Int) := by omega
        obtain ⟨b, o, rfl, hea⟩ := HL.out k l[k] (List.getElem?_eq_getElem hlt)
        have hg := Lib.hid (List.getElem?_eq_getElem hlt)
        obtain ⟨a, ha⟩ : ∃ a, a = l[k] := ⟨_, rfl⟩
        rw [← ha] at hg hea
        clear ha
        obtain ⟨d', v', hd', hv', p0, p1, p2, p3, p4, p5, p6, p7⟩ := ex_open (exAt_stays d _ _ _ _ _ (bel_tr HB1.out hb) hea)
        have hNa : nodesN a ≤ 1048576 := by have := nodesL_drop hg.out; have := hI.out.2.1; omega
        obtain ⟨Q, hQ⟩ : ∃ Q, countN L a = Q := ⟨_, rfl⟩
        have HC := Lib.hid (fun (W : World) (hW : Below wr.heap.size wr W) => HREC.out d' hd' a v' W (hv'.stays (exAt_stays d') hW) hNa)
        unfold exV at HC
        rw [hQ] at HC
        have hQb : Q ≤ 1048576 := by have := countN_le L a; omega
        have HQ := Lib.hid hQ
        have hs := hI.out.2.1
        have hr1 : IntKind.i64.wrap ((C : Int) + (Q : Int)) = ((C + Q : Nat) : Int) := by
          have hq := nodesL_drop hg.out
          have hq2 := countN_le L a
          have hq3 : C + Q ≤ 1048576 := by omega
          rw [← Int.natCast_add, wrap_nat (by omega)]
        clear hQ hea hd' hv' hs
        go_wp2_with fail
        refine (HC.out _ (Below.refl _ _)).mono ?_
        rintro e w' ⟨rfl, hb'⟩
        go_wp2_with fail
        go_roundw
        case rel =>
          refine ⟨k + 1, C + Q, by omega, by go_num, rfl, Lib.hid ⟨?_, ?_, bel_tr hb hb'⟩⟩
          · have h := hI.out.1
            rw [countL_drop hg.out, if_pos hC, HQ.out] at h
            exact h
          · have hq := nodesL_drop hg.out
            have hq2 := countN_le L a
            have hq3 := HQ.out
            have hs := hI.out.2.1
            omega
        case measure => simp [intOf]; omega
      · have hC' : ¬ (C : Int) ≤ (L : Int) := by omega
        have hRC : C = R := by
          have h := hI.out.1
          rw [countL_drop (List.getElem?_eq_getElem hlt), if_neg hC] at h
          exact h
        subst hRC
        go_wp2_with fail
        go_ret
        exact ⟨rfl, bel_tr HB1.out hb⟩
    · have hk' : ¬ (k : Int) < (l.length : Int) := by omega
      have hRC : C = R := by
        have h := hI.out.1
        rw [List.drop_of_length_le (by omega), countL] at h
        exact h
      subst hRC
      go_wp2_with fail
      go_ret
      exact ⟨rfl, bel_tr HB1.out hb⟩
theorem rcount_any (L : Nat) (hL : L ≤ 1048576) (d : Nat) : ∀ (x : Ex) (v : Value) (w : World), IsExs d w v x.args → nodesN x ≤ 1048576 →
    Calls Tryz.prog 78 #[exV x v, .int .i64 L] w fun e w' => e = .returned (.int .i64 (countN L x)) ∧ Below w.heap.size w w' := by
  induction d with
  | zero => exact rcount_step L 0 hL (fun d' h => by omega)
  | succ d ih => exact rcount_step L (d + 1) hL (fun d' h => Nat.succ.inj h ▸ ih)

set_option maxRecDepth 100000 in
set_option maxHeartbeats 2000000 in
theorem rdepth_step (d : Nat) (hrec : ∀ d', d = d' + 1 → ∀ (x : Ex) (v : Value) (w : World), IsExs d' w v x.args → nodesN x ≤ 1048576 →
      Calls Tryz.prog 79 #[exV x v] w fun e w' => e = .returned (.int .i64 (depthN x)) ∧ Below w.heap.size w w')
    (x : Ex) (v : Value) (w : World) (hx : IsExs d w v x.args) (hN : nodesN x ≤ 1048576) :
    Calls Tryz.prog 79 #[exV x v] w fun e w' => e = .returned (.int .i64 (depthN x)) ∧ Below w.heap.size w w' := by
  have HREC := Lib.hid hrec
  obtain ⟨op, l, vr, fl, kd, ⟨k0, n0, t0⟩⟩ := x
  rw [depthN_eq]
  rw [nodesN_eq] at hN
  obtain ⟨A, c, rfl, h1, h2, hat⟩ := hx
  simp only [Ex.args] at hN h1 h2 hat ⊢
  have hn63 := len_i64 h1 h2
  have HL := Lib.hid hat
  have HN := Lib.hid hN
  obtain ⟨R, hR⟩ : ∃ R, depthL l = R := ⟨_, rfl⟩
  have hRb : R < 1048576 := by have := depthL_le l; omega
  have HR := Lib.hid hR
  rw [hR]
  have hr2 : IntKind.i64.wrap ((R : Int) + 1) = (R : Int) + 1 := wrap_nat (n := R + 1) (by omega)
  unfold exV
  simp only [Ex.op, Ex.vr, Ex.fl, Ex.kd, Ex.val]
  clear hat h1 h2 hR hN hrec hRb
  go_enter Tryz.func79, Tryz.ntmps79
  go_wp2
  refine wp_gen fun w1 e1 => ?_
  have y1 : w1.cell? ⟨w.heap.size, 1, none⟩ = some (.slice A l.length c) := by rw [e1]; go_simp
  have hb1 : Below w.heap.size w w1 := by rw [e1]; exact (by repeat (first | exact Below.refl _ _ | assumption | refine Below.drew ?_ | refine bel_al ?_ _ | refine bel_set ?_ (by omega) _ | refine bel_tr ?_ (by assumption)))
  clear e1
  have HB1 := Lib.hid hb1
  clear hb1
  go_loopw [3, 4] (fun n i wr => ∃ k C : Nat, k ≤ l.length ∧ i = .int .i64 k ∧ n = .int .i64 C ∧ Hid (max C (depthL (l.drop k)) = R ∧ Below w1.heap.size w1 wr)) (fun n i _ => l.length - (intOf i).toNat)
  case atStart => exact ⟨0, 0, Nat.zero_le _, rfl, rfl, Lib.hid ⟨by rw [List.drop_zero, HR.out]; omega, Below.refl _ _⟩⟩
  case round =>
    obtain ⟨k, C, hk, rfl, rfl, hI⟩ := hrel
    have hb := hI.out.2
    have z1 := cell_stays hb y1
    by_cases hlt : k < l.length
    · have hk' : (k : Int) < (l.length : Int) := by omega
      obtain ⟨b, o, rfl, hea⟩ := HL.out k l[k] (List.getElem?_eq_getElem hlt)
      have hg := Lib.hid (List.getElem?_eq_getElem hlt)
      obtain ⟨a, ha⟩ : ∃ a, a = l[k] := ⟨_, rfl⟩
      rw [← ha] at hg hea
      clear ha
      obtain ⟨d', v', hd', hv', p0, p1, p2, p3, p4, p5, p6, p7⟩ := ex_open (exAt_stays d _ _ _ _ _ (bel_tr HB1.out hb) hea)
      have hNa : nodesN a ≤ 1048576 := by have := nodesL_at hg.out; have := HN.out; omega
      obtain ⟨Q, hQ⟩ : ∃ Q, depthN a = Q := ⟨_, rfl⟩
      have HC := Lib.hid (fun (W : World) (hW : Below wr.heap.size wr W) => HREC.out d' hd' a v' W (hv'.stays (exAt_stays d') hW) hNa)
      unfold exV at HC
      rw [hQ] at HC
      have HQ := Lib.hid hQ
      clear hQ hea hd' hv'
      go_wp2_with fail
      refine (HC.out _ (Below.refl _ _)).mono ?_
      rintro e w' ⟨rfl, hb'⟩

      go_wp2_with fail
      go_roundw
      case rel =>
        refine ⟨k + 1, max C Q, by omega, by go_num, ?_, Lib.hid ⟨?_, bel_tr hb hb'⟩⟩
        · exact congrArg (Value.int .i64) (by omega)
        · have h := hI.out.1
          rw [depthL_drop hg.out, HQ.out] at h
          omega
      case measure => simp [intOf]; omega
    · have hk' : ¬ (k : Int) < (l.length : Int) := by omega
      have hRC : C = R := by
        have h := hI.out.1
        rw [List.drop_of_length_le (by omega), depthL] at h
        omega
      subst hRC
      go_wp2_with fail
      go_ret
      exact ⟨rfl, bel_tr HB1.out hb⟩
theorem rdepth_any (d : Nat) : ∀ (x : Ex) (v : Value) (w : World), IsExs d w v x.args → nodesN x ≤ 1048576 →
    Calls Tryz.prog 79 #[exV x v] w fun e w' => e = .returned (.int .i64 (depthN x)) ∧ Below w.heap.size w w' := by
  induction d with
  | zero => exact rdepth_step 0 (fun d' h => by omega)
  | succ d ih => exact rdepth_step (d + 1) (fun d' h => Nat.succ.inj h ▸ ih)

set_option maxRecDepth 100000 in
set_option maxHeartbeats 2000000 in
theorem size_step (d : Nat) (hrec : ∀ d', d = d' + 1 → ∀ (x : Ex) (v : Value) (w : World), IsExs d' w v x.args → nodesN x ≤ 1048576 →
      Calls Tryz.prog 140 #[exV x v] w fun e w' => e = .returned (.tuple #[.int .i64 (nodesN x), .int .i64 (depthN x)]) ∧ Below w.heap.size w w')
    (x : Ex) (v : Value) (w : World) (hx : IsExs d w v x.args) (hN : nodesN x ≤ 1048576) :
    Calls Tryz.prog 140 #[exV x v] w fun e w' => e = .returned (.tuple #[.int .i64 (nodesN x), .int .i64 (depthN x)]) ∧ Below w.heap.size w w' := by
  have HREC := Lib.hid hrec
  obtain ⟨op, l, vr, fl, kd, ⟨k0, n0, t0⟩⟩ := x
  rw [depthN_eq]
  obtain ⟨M, hM⟩ : ∃ M, nodesN (.mk op l vr fl kd ⟨k0, n0, t0⟩) = M := ⟨_, rfl⟩
  have HM : Hid (1 + nodesL l = M) := Lib.hid (by rw [← hM, nodesN_eq]; rfl)
  rw [hM] at hN ⊢
  clear hM
  obtain ⟨A, c, rfl, h1, h2, hat⟩ := hx
  simp only [Ex.args] at h1 h2 hat ⊢
  have hn63 := len_i64 h1 h2
  have HL := Lib.hid hat
  have HN := Lib.hid hN
  obtain ⟨R, hR⟩ : ∃ R, depthL l = R := ⟨_, rfl⟩
  have hRb : R < 1048576 := by have := depthL_le l; have := HM.out; omega
  have HR := Lib.hid hR
  rw [hR]
  have hr2 : IntKind.i64.wrap ((R : Int) + 1) = (R : Int) + 1 := wrap_nat (n := R + 1) (by omega)
  unfold exV
  simp only [Ex.op, Ex.vr, Ex.fl, Ex.kd, Ex.val]
  clear hat h1 h2 hR hN hrec hRb
  go_enter Tryz.func140, Tryz.ntmps140
  go_wp2
  refine wp_gen fun w1 e1 => ?_
  have hb1 : Below w.heap.size w w1 := by rw [e1]; exact (by repeat (first | exact Below.refl _ _ | assumption | refine Below.drew ?_ | refine bel_al ?_ _ | refine bel_set ?_ (by omega) _ | refine bel_tr ?_ (by assumption)))
  clear e1
  have HB1 := Lib.hid hb1
  clear hb1
  go_loopw [4, 5, 13] (fun n m i wr => ∃ k C D : Nat, k ≤ l.length ∧ i = .int .i64 k ∧ n = .int .i64 C ∧ m = .int .i64 D ∧ Hid (C + nodesL (l.drop k) = M ∧ max D (depthL (l.drop k)) = R ∧ Below w1.heap.size w1 wr)) (fun n m i _ => l.length - (intOf i).toNat)
  case atStart => exact ⟨0, 1, 0, Nat.zero_le _, rfl, rfl, rfl, Lib.hid ⟨HM.out, by rw [List.drop_zero, HR.out]; omega, Below.refl _ _⟩⟩
  case round =>
    obtain ⟨k, C, D, hk, rfl, rfl, rfl, hI⟩ := hrel
    have hb := hI.out.2.2
    by_cases hlt : k < l.length
    · have hk' : (k : Int) < (l.length : Int) := by omega
      obtain ⟨b, o, rfl, hea⟩ := HL.out k l[k] (List.getElem?_eq_getElem hlt)
      have hg := Lib.hid (List.getElem?_eq_getElem hlt)
      obtain ⟨a, ha⟩ : ∃ a, a = l[k] := ⟨_, rfl⟩
      rw [← ha] at hg hea
      clear ha
      obtain ⟨d', v', hd', hv', p0, p1, p2, p3, p4, p5, p6, p7⟩ := ex_open (exAt_stays d _ _ _ _ _ (bel_tr HB1.out hb) hea)
      have hNa : nodesN a ≤ 1048576 := by have := nodesL_at hg.out; have := HM.out; have := HN.out; omega
      have hv2 := hv'
      obtain ⟨A', c', hvv, -⟩ := hv2
      subst hvv
      obtain ⟨P, hP⟩ : ∃ P, nodesN a = P := ⟨_, rfl⟩
      obtain ⟨Q, hQ⟩ : ∃ Q, depthN a = Q := ⟨_, rfl⟩
      have HC := Lib.hid (fun (W : World) (hW : Below wr.heap.size wr W) => HREC.out d' hd' a _ W (hv'.stays (exAt_stays d') hW) hNa)
      unfold exV at HC
      rw [hQ, hP] at HC
      have HQ := Lib.hid hQ
      have HP := Lib.hid hP
      have hr1 : IntKind.i64.wrap ((C : Int) + (P : Int)) = ((C + P : Nat) : Int) := by
        have hq := nodesL_drop hg.out
        have hq2 := hI.out.1
        have hq3 := HN.out
        rw [← Int.natCast_add, wrap_nat (by omega)]
      clear hQ hP hea hd' hv' hNa
      go_wp2_with fail
      refine (HC.out _ ?_).mono ?_
      · exact (by repeat (first | exact Below.refl _ _ | assumption | refine Below.drew ?_ | refine bel_al ?_ _ | refine bel_set ?_ (by omega) _ | refine bel_tr ?_ (by assumption)))
      rintro e w' ⟨rfl, hb'⟩
      go_wp2_with fail
      go_roundw
      case rel =>
        refine ⟨k + 1, C + P, max D Q, by omega, by go_num, rfl, congrArg (Value.int .i64) (by omega), Lib.hid ⟨?_, ?_, bel_tr hb (bel_tr (by repeat (first | exact Below.refl _ _ | assumption | refine Below.drew ?_ | refine bel_al ?_ _ | refine bel_set ?_ (by omega) _ | refine bel_tr ?_ (by assumption))) hb')⟩⟩
        · have h := hI.out.1
          rw [nodesL_drop hg.out, HP.out] at h
          omega
        · have h := hI.out.2.1
          rw [depthL_drop hg.out, HQ.out] at h
          omega
      case measure => simp [intOf]; omega
    · have hk' : ¬ (k : Int) < (l.length : Int) := by omega
      have hRC : D = R ∧ C = M := by
        have h := hI.out.2.1
        have h' := hI.out.1
        rw [List.drop_of_length_le (by omega)] at h h'
        rw [depthL] at h
        rw [nodesL] at h'
        omega
      obtain ⟨rfl, rfl⟩ := hRC
      go_wp2_with fail
      exact bodyPost_ret (v := .tuple #[.int .i64 C, .int .i64 ((D : Int) + 1)]) (by simp [results, Tryz.results140, go_sem]) rfl ⟨rfl, bel_tr HB1.out hb⟩
theorem size_any (d : Nat) : ∀ (x : Ex) (v : Value) (w : World), IsExs d w v x.args → nodesN x ≤ 1048576 →
    Calls Tryz.prog 140 #[exV x v] w fun e w' => e = .returned (.tuple #[.int .i64 (nodesN x), .int .i64 (depthN x)]) ∧ Below w.heap.size w w' := by
  induction d with
  | zero => exact size_step 0 (fun d' h => by omega)
  | succ d ih => exact size_step (d + 1) (fun d' h => Nat.succ.inj h ▸ ih)
end Go.Proofs.YtclpglgigpjfoaaGreatDoor
namespace Go.Proofs.YtclpglgigpjfoaaGreatDoor
open Go.RowKit
def fewX (x : Ex) : Bool := decide (nodesN x ≤ 200) && decide (depthN x ≤ 100)
set_option maxRecDepth 100000 in
set_option maxHeartbeats 2000000 in
theorem rfewx_any (d : Nat) (x : Ex) (v : Value) (w : World) (hx : IsExs d w v x.args) (hN : nodesN x ≤ 1048576) :
    Calls Tryz.prog 42 #[exV x v] w fun e w' => e = .returned (.bool (fewX x)) ∧ Below w.heap.size w w' := by
  have HSZ : Hid (∀ W : World, Below w.heap.size w W → Calls Tryz.prog 78 #[exV x v, .int .i64 200] W fun e w' => e = .returned (.int .i64 (countN 200 x)) ∧ Below W.heap.size W w') := Lib.hid (fun W hW => rcount_any 200 (by decide) d x v W (hx.stays (exAt_stays d) hW) hN)
  have HDE := Lib.hid (fun (W : World) (hW : Below w.heap.size w W) => rdepth_any d x v W (hx.stays (exAt_stays d) hW) hN)
  obtain ⟨R, hR⟩ : ∃ R, fewX x = R := ⟨_, rfl⟩
  obtain ⟨p, hp⟩ : ∃ p, countN 200 x = p := ⟨_, rfl⟩
  obtain ⟨q, hq⟩ : ∃ q, depthN x = q := ⟨_, rfl⟩
  have HR : Hid (R = (decide (p ≤ 200) && decide (q ≤ 100))) := Lib.hid (by rw [← hR, ← hp, ← hq]; unfold fewX; have := countN_iff 200 x; simp only [this])
  rw [hR]
  rw [hp] at HSZ
  rw [hq] at HDE
  obtain ⟨op, l, vr, fl, kd, ⟨k0, n0, t0⟩⟩ := x
  obtain ⟨A, c, rfl, -⟩ := hx
  unfold exV at *
  simp only [Ex.args, Ex.op, Ex.vr, Ex.fl, Ex.kd, Ex.val] at *
  clear hR hp hq hN
  go_enter Tryz.func42, Tryz.ntmps42
  go_wp2_with fail
  refine (HSZ.out _ (bel_one _ _)).mono ?_
  rintro e w1 ⟨rfl, hb1⟩
  have hnew := (new_cells hb1).1
  have y0 : w1.cell? ⟨w.heap.size, 0, none⟩ = some (.int .i64 op) := by rw [hnew]; rfl
  have y1 : w1.cell? ⟨w.heap.size, 1, none⟩ = some (.slice A l.length c) := by rw [hnew]; rfl
  have y2 : w1.cell? ⟨w.heap.size, 2, none⟩ = some (.int .i64 vr) := by rw [hnew]; rfl
  have y3 : w1.cell? ⟨w.heap.size, 3, none⟩ = some (.int .i64 fl) := by rw [hnew]; rfl
  have y4 : w1.cell? ⟨w.heap.size, 4, none⟩ = some (.int .i64 kd) := by rw [hnew]; rfl
  have y5 : w1.cell? ⟨w.heap.size, 5, none⟩ = some (.int .i64 k0) := by rw [hnew]; rfl
  have y6 : w1.cell? ⟨w.heap.size, 6, none⟩ = some (.int .i64 n0) := by rw [hnew]; rfl
  have y7 : w1.cell? ⟨w.heap.size, 7, none⟩ = some (.string t0) := by rw [hnew]; rfl
  have HB1 := Lib.hid (bel_tr (bel_one w _) hb1)
  clear hnew hb1
  by_cases h1 : p ≤ 200
  case neg =>
    obtain rfl : R = false := by rw [HR.out]; simp [h1]
    have h1' : ¬ (p : Int) ≤ (200 : Int) := by omega
    clear h1 HR
    go_wp2_with fail
    go_ret
    exact ⟨rfl, HB1.out⟩
  have h1' : (p : Int) ≤ (200 : Int) := by omega
  have HP := Lib.hid h1
  clear h1
  go_wp2_with fail
  refine (HDE.out _ HB1.out).mono ?_
  rintro e w3 ⟨rfl, hb3⟩
  go_wp2_with fail
  go_ret
  exact ⟨by rw [HR.out]; simp [HP.out]; omega, bel_tr HB1.out hb3⟩
end Go.Proofs.YtclpglgigpjfoaaGreatDoor
namespace Go.Proofs.YtclpglgigpjfoaaGreatDoor
open Go.ChangeShapes Go.WideShapes Go.ChangeAt Go.RowKit Go.Deep

theorem list18 {α : Type} {l : List α} (h : l.length = 18) : ∃ c0 c1 c2 c3 c4 c5 c6 c7 c8 c9 c10 c11 c12 c13 c14 c15 c16 c17, l = [c0, c1, c2, c3, c4, c5, c6, c7, c8, c9, c10, c11, c12, c13, c14, c15, c16, c17] := by
  match l, h with
  | [c0, c1, c2, c3, c4, c5, c6, c7, c8, c9, c10, c11, c12, c13, c14, c15, c16, c17], _ => exact ⟨c0, c1, c2, c3, c4, c5, c6, c7, c8, c9, c10, c11, c12, c13, c14, c15, c16, c17, rfl⟩
theorem cells_qry : Tryz.prog.cellsOf 94 = 18 := by kernel_rfl
theorem cells_pat : Tryz.prog.cellsOf 92 = 14 := by kernel_rfl
theorem cells_nvs : Tryz.prog.cellsOf 53 = 1 := by kernel_rfl
theorem cells_ints : Tryz.prog.cellsOf 84 = 1 := by kernel_rfl
section
variable {H : Type} {enc : TypeId × Value → H} {w : World} {base : Nat} {spare : Nat → Bool} {held : Bool}
set_option maxRecDepth 100000 in
theorem read_query {r : Reach} {b0 : Nat} {v : Value} {d : DataW H} {p : List MemPlace} (ho : Value.okWide Tryz.prog w r b0 94 v) (h : DataW.Trod enc Tryz.prog w base spare held 94 v d p) :
    ∃ (c0 c1 c2 c3 c4 c5 c6 c7 c8 c9 c10 c11 c12 c13 c14 c15 c16 c17 : Value) (vars : List Nv) (fuel : Nat) (rets : List Ex), v = .agg #[c0, c1, c2, c3, c4, c5, c6, c7, c8, c9, c10, c11, c12, c13, c14, c15, c16, c17] ∧ IsNvs w c1 vars ∧ IsExs fuel w c17 rets ∧ (rets.map nodesN).sum ≤ Rows.uptoBulk d := by
  obtain ⟨cs, rfl, hs⟩ := okWide_struct Tryz.underlying94 ho
  obtain ⟨fuel, hf⟩ := h
  obtain ⟨l⟩ := cs
  rw [cells_qry] at hs
  obtain ⟨c0, c1, c2, c3, c4, c5, c6, c7, c8, c9, c10, c11, c12, c13, c14, c15, c16, c17, rfl⟩ := list18 (by simpa using hs)
  obtain ⟨xs, m, _, hy, _, hxl, hx⟩ := DataW.trod_struct Tryz.underlying94 hf
  obtain ⟨x0, x1, x2, x3, x4, rfl⟩ := list5 (by simpa using hxl)
  have f1 := hx 1 _ rfl
  have f4 := hx 4 _ rfl
  simp [cells_nvs, cells_exs] at f1 f4
  obtain ⟨vars, hv⟩ := read_nvs f1
  obtain ⟨rets, hr, hb⟩ := read_exs f4
  refine ⟨c0, c1, c2, c3, c4, c5, c6, c7, c8, c9, c10, c11, c12, c13, c14, c15, c16, c17, vars, m, rets, rfl, hv, hr, ?_⟩
  have hd : d = .agg [x0.1, x1.1, x2.1, x3.1, x4.1] := by simpa using congrArg Prod.fst hy
  subst hd
  have h1 := bulk_part (d := x4.1) (l := [x0.1, x1.1, x2.1, x3.1, x4.1]) (by simp)
  simp only [Rows.uptoBulk]
  omega
end
end Go.Proofs.YtclpglgigpjfoaaGreatDoor
namespace Go.Proofs.YtclpglgigpjfoaaGreatDoor
open Go.RowKit

/-- how many arguments an operation has, or -1 -/
def arN (op : Int) : Int := if op < 0 ∨ 12 < op then -1 else if op < 5 then 0 else if op = 12 then 1 else 2
def arP (op : Int) : Int × Bool := if op < 0 ∨ 12 < op then (0, false) else (arN op, true)
/-- whether it uses a variable, and a field -/
def useP (op : Int) : Bool × Bool := if op = 1 ∨ op = 4 then (true, true) else if op = 2 ∨ op = 3 then (true, false) else (false, false)
set_option maxHeartbeats 1000000 in
theorem arity_any (op : Int) (w : World) : Calls Tryz.prog 167 #[.int .i64 op] w fun e w' => e = .returned (.tuple #[.int .i64 (arP op).1, .bool (arP op).2]) ∧ Below w.heap.size w w' := by
  obtain ⟨⟨R, b⟩, hR⟩ : ∃ R, arP op = R := ⟨_, rfl⟩
  have HR := Lib.hid hR
  rw [hR]
  clear hR
  by_cases h0 : op < 0 <;> by_cases h1 : op > 12 <;> by_cases h2 : op < 5 <;> by_cases h3 : op = 12
  all_goals first
    | (exfalso; omega)
    | skip
  all_goals
    (try subst h3)
    obtain ⟨e1, e2⟩ : R = _ ∧ b = _ := by have h := HR.out; simp only [arP, arN] at h; (repeat first | rw [if_pos (by omega)] at h | rw [if_neg (by omega)] at h); injection h with h1 h2; exact ⟨h1.symm, h2.symm⟩
    have E1 := Lib.hid e1
    have E2 := Lib.hid e2
    clear e1 e2
    go_enter Tryz.func167, Tryz.ntmps167
    go_wp2
    exact bodyPost_ret (v := .tuple #[.int .i64 R, .bool b]) (by rw [E1.out, E2.out]; simp [results, Tryz.results167, go_sem]) rfl ⟨rfl, Below.refl _ _⟩
set_option maxHeartbeats 1000000 in
theorem rarity_any (op : Int) (w : World) : Calls Tryz.prog 191 #[.int .i64 op] w fun e w' => e = .returned (.int .i64 (arN op)) ∧ Below w.heap.size w w' := by
  obtain ⟨R, hR⟩ : ∃ R, arN op = R := ⟨_, rfl⟩
  have HR := Lib.hid hR
  rw [hR]
  clear hR
  go_enter Tryz.func191, Tryz.ntmps191
  go_wp2
  all_goals
    go_ret
    exact ⟨ret_i (by rw [← HR.out]; clear HR; unfold arN; ((try simp only [beq_iff_eq, beq_eq_false_iff_ne, ne_eq] at *); (repeat' split) <;> first | rfl | omega | (exfalso; simp_all; done) | (exfalso; simp_all; omega))), Below.refl _ _⟩
set_option maxHeartbeats 1000000 in
theorem uses_any (op : Int) (w : World) : Calls Tryz.prog 168 #[.int .i64 op] w fun e w' => e = .returned (.tuple #[.bool (useP op).1, .bool (useP op).2]) ∧ Below w.heap.size w w' := by
  obtain ⟨⟨R, b⟩, hR⟩ : ∃ R, useP op = R := ⟨_, rfl⟩
  have HR := Lib.hid hR
  rw [hR]
  clear hR
  by_cases h0 : op = 1 <;> by_cases h1 : op = 4 <;> by_cases h2 : op = 2 <;> by_cases h3 : op = 3
  all_goals first
    | (exfalso; omega)
    | skip
  all_goals
    obtain ⟨e1, e2⟩ : R = _ ∧ b = _ := by have h := HR.out; simp only [useP] at h; (repeat first | rw [if_pos (by omega)] at h | rw [if_neg (by omega)] at h); injection h with h1 h2; exact ⟨h1.symm, h2.symm⟩
    have E1 := Lib.hid e1
    have E2 := Lib.hid e2
    clear e1 e2
    go_enter Tryz.func168, Tryz.ntmps168
    go_wp2
    exact bodyPost_ret (v := .tuple #[.bool R, .bool b]) (by rw [E1.out, E2.out]; simp [results, Tryz.results168, go_sem]) rfl ⟨rfl, Below.refl _ _⟩
set_option maxHeartbeats 1000000 in
theorem ruses_any (op : Int) (w : World) : Calls Tryz.prog 192 #[.int .i64 op] w fun e w' => e = .returned (.tuple #[.bool (useP op).1, .bool (useP op).2]) ∧ Below w.heap.size w w' := by
  obtain ⟨⟨R, b⟩, hR⟩ : ∃ R, useP op = R := ⟨_, rfl⟩
  have HR := Lib.hid hR
  rw [hR]
  clear hR
  by_cases h0 : op = 1 <;> by_cases h1 : op = 4 <;> by_cases h2 : op = 2 <;> by_cases h3 : op = 3
  all_goals first
    | (exfalso; omega)
    | skip
  all_goals
    obtain ⟨e1, e2⟩ : R = _ ∧ b = _ := by have h := HR.out; simp only [useP] at h; (repeat first | rw [if_pos (by omega)] at h | rw [if_neg (by omega)] at h); injection h with h1 h2; exact ⟨h1.symm, h2.symm⟩
    have E1 := Lib.hid e1
    have E2 := Lib.hid e2
    clear e1 e2
    go_enter Tryz.func192, Tryz.ntmps192
    go_wp2
    exact bodyPost_ret (v := .tuple #[.bool R, .bool b]) (by rw [E1.out, E2.out]; simp [results, Tryz.results192, go_sem] <;> assumption) rfl ⟨rfl, Below.refl _ _⟩
theorem suits_any (k : Int) (v : Vl) (w : World) (hk : 1 ≤ k) : Calls Tryz.prog 188 #[.int .i64 k, vlV v] w fun e w' => e = .returned (.bool (sutB k v)) ∧ Below w.heap.size w w' := by
  obtain ⟨R, hR⟩ : ∃ R, sutB k v = R := ⟨_, rfl⟩
  have HR := Lib.hid hR
  rw [hR]
  clear hR
  have HK := Lib.hid hk
  clear hk
  unfold vlV
  by_cases h0 : v.kind = 0
  · have h0' : (v.kind == 0) = true := by simpa using h0
    have H0 := Lib.hid h0
    clear h0
    go_enter Tryz.func188, Tryz.ntmps188
    go_wp2
    go_ret
    exact ⟨by rw [← HR.out]; simp [sutB, H0.out], bel_one _ _⟩
  · have h0' : (v.kind == 0) = false := by simpa using h0
    have H0 := Lib.hid h0
    clear h0
    by_cases h2 : k = 4
    · subst h2
      go_enter Tryz.func188, Tryz.ntmps188
      go_wp2
      go_ret
      exact ⟨by rw [← HR.out]; simp [sutB], bel_one _ _⟩
    · have h2' : (k == 4) = false := by simpa using h2
      have H2 := Lib.hid h2
      clear h2
      go_enter Tryz.func188, Tryz.ntmps188
      go_wp2
      go_ret
      exact ⟨by rw [← HR.out]; have h00 : k ≠ 0 := (by have := HK.out; omega); simp [sutB, H0.out, H2.out, h00]; by_cases h : k = 5 <;> simp [h], bel_one _ _⟩
/-- the error of a node's value, where it has one -/
def conE (x : Ex) : Int := if valE x.val ≠ 0 then valE x.val else if x.op = 4 ∧ (sutB x.kd x.val = false ∨ x.kd = 1 ∧ vlEq x.val zeroVl = false) then 9 else 0
set_option maxRecDepth 100000 in
set_option maxHeartbeats 2000000 in
theorem constants_any (x : Ex) (A : Option Addr) (n c : Nat) (w : World) (hk : x.op = 4 → 1 ≤ x.kd) :
    Calls Tryz.prog 169 #[exV x (.slice A n c)] w fun e w' => e = .returned (.int .i64 (conE x)) ∧ Below w.heap.size w w' := by
  obtain ⟨op, l, vr, fl, kd, ⟨k0, n0, t0⟩⟩ := x
  obtain ⟨R, hR⟩ : ∃ R, conE (.mk op l vr fl kd ⟨k0, n0, t0⟩) = R := ⟨_, rfl⟩
  have HR := Lib.hid hR
  rw [hR]
  clear hR
  have HK := Lib.hid hk
  have HV := Lib.hid (vcheck_any ⟨k0, n0, t0⟩)
  have HQ : Hid (∀ W, (binOp .neq 88 (.agg #[.int .i64 k0, .int .i64 n0, .string t0]) (.agg #[.int .i64 0, .int .i64 0, .string ⟨#[]⟩])).run Tryz.prog W = .ok (.bool (!vlEq ⟨k0, n0, t0⟩ zeroVl)) W) := Lib.hid (fun W => vl_neq2 ⟨k0, n0, t0⟩ zeroVl W)
  obtain ⟨z, hz⟩ : ∃ z, valE ⟨k0, n0, t0⟩ = z := ⟨_, rfl⟩
  obtain ⟨q, hq⟩ : ∃ q, vlEq ⟨k0, n0, t0⟩ zeroVl = q := ⟨_, rfl⟩
  obtain ⟨b, hb⟩ : ∃ b, sutB kd ⟨k0, n0, t0⟩ = b := ⟨_, rfl⟩
  rw [hz] at HV
  rw [hq] at HQ
  have HR2 : Hid (R = if z ≠ 0 then z else if op = 4 ∧ (b = false ∨ kd = 1 ∧ q = false) then 9 else 0) := Lib.hid (by rw [← HR.out, ← hz, ← hb, ← hq]; rfl)
  have HU : Hid (1 ≤ kd → ∀ W, Calls Tryz.prog 188 #[.int .i64 kd, vlV ⟨k0, n0, t0⟩] W fun e w' => e = .returned (.bool b) ∧ Below W.heap.size W w') := Lib.hid (fun h W => hb ▸ suits_any kd ⟨k0, n0, t0⟩ W h)
  unfold exV vlV at *
  simp only [Ex.op, Ex.vr, Ex.fl, Ex.kd, Ex.val] at HK ⊢
  clear hz hq hb HR hk
  go_enter Tryz.func169, Tryz.ntmps169
  go_wp2_with fail
  refine (HV.out _).mono ?_
  rintro e w1 ⟨rfl, hb1⟩
  have hn := (new_cells hb1).1
  have y0 : w1.cell? ⟨w.heap.size, 0, none⟩ = some (.int .i64 op) := by rw [hn]; rfl
  have y4 : w1.cell? ⟨w.heap.size, 4, none⟩ = some (.int .i64 kd) := by rw [hn]; rfl
  have y5 : w1.cell? ⟨w.heap.size, 5, none⟩ = some (.int .i64 k0) := by rw [hn]; rfl
  have y6 : w1.cell? ⟨w.heap.size, 6, none⟩ = some (.int .i64 n0) := by rw [hn]; rfl
  have y7 : w1.cell? ⟨w.heap.size, 7, none⟩ = some (.string t0) := by rw [hn]; rfl
  have HB1 := Lib.hid (bel_tr (bel_one w _) hb1)
  clear hn hb1
  by_cases hz : z = 0
  case neg =>
    obtain rfl : R = z := by rw [HR2.out, if_pos hz]
    have hz' : (R == 0) = false := by simpa using hz
    clear hz
    go_wp2_with fail
    go_ret
    exact ⟨rfl, HB1.out⟩
  subst hz
  by_cases h4 : op = 4
  case neg =>
    obtain rfl : R = 0 := by rw [HR2.out, if_neg (by simp), if_neg (fun h => h4 h.1)]
    have h4' : (op == 4) = false := by simpa using h4
    clear h4
    go_wp2_with fail
    go_ret
    exact ⟨rfl, HB1.out⟩
  subst h4
  have HU' := Lib.hid (HU.out (HK.out rfl))
  have hR : R = if b = false ∨ kd = 1 ∧ q = false then 9 else 0 := by rw [HR2.out]; simp
  have HR3 := Lib.hid hR
  have hq := HQ.out
  clear HU HK HR2 hR HQ HV
  cases b with
  | false =>
    obtain rfl : R = 9 := by rw [HR3.out]; simp
    clear HR3
    go_wp2_with fail
    refine (HU'.out _).mono ?_
    rintro e w' ⟨rfl, hb'⟩
    replace y5 := cell_stays hb' y5
    replace y6 := cell_stays hb' y6
    replace y7 := cell_stays hb' y7
    replace y4 := cell_stays hb' y4
    go_wp2_with fail
    go_ret
    exact ⟨rfl, bel_tr HB1.out hb'⟩
  | true =>
    by_cases h1 : kd = 1
    · subst h1
      cases q with
      | false =>
        obtain rfl : R = 9 := by rw [HR3.out]; simp
        clear HR3
        go_wp2_with fail
        refine (HU'.out _).mono ?_
        rintro e w' ⟨rfl, hb'⟩
        replace y5 := cell_stays hb' y5
        replace y6 := cell_stays hb' y6
        replace y7 := cell_stays hb' y7
        replace y4 := cell_stays hb' y4
        go_wp2_with fail
        go_ret
        exact ⟨rfl, bel_tr HB1.out hb'⟩
      | true =>
        obtain rfl : R = 0 := by rw [HR3.out]; simp
        clear HR3
        go_wp2_with fail
        refine (HU'.out _).mono ?_
        rintro e w' ⟨rfl, hb'⟩
        replace y5 := cell_stays hb' y5
        replace y6 := cell_stays hb' y6
        replace y7 := cell_stays hb' y7
        replace y4 := cell_stays hb' y4
        go_wp2_with fail
        go_ret
        exact ⟨rfl, bel_tr HB1.out hb'⟩
    · have h1' : (kd == 1) = false := by simpa using h1
      obtain rfl : R = 0 := by rw [HR3.out, if_neg (by simp [h1])]
      clear HR3 h1
      go_wp2_with fail
      refine (HU'.out _).mono ?_
      rintro e w' ⟨rfl, hb'⟩
      replace y5 := cell_stays hb' y5
      replace y6 := cell_stays hb' y6
      replace y7 := cell_stays hb' y7
      replace y4 := cell_stays hb' y4
      go_wp2_with fail
      go_ret
      exact ⟨rfl, bel_tr HB1.out hb'⟩
end Go.Proofs.YtclpglgigpjfoaaGreatDoor
