/- What an expression is worth over the events of variables; plain laws. -/
import Derived.Test.YtclpglgigpjfoaaGreatDoorQMchk
import Derived.Test.YtclpglgigpjfoaaGreatDoorQMvrow
import Derived.Test.YtclpglgigpjfoaaGreatDoorQMev
import Derived.Test.YtclpglgigpjfoaaGreatDoorQMops
import Derived.Test.YtclpglgigpjfoaaGreatDoorQMbind
import Derived.Test.YtclpglgigpjfoaaGreatDoorQReg
namespace Go.Proofs.YtclpglgigpjfoaaGreatDoor

/-- the events of a variable -/
def evsAt (vs : List (List Evt)) (v : Int) : List Evt := if v < 0 ∨ (vs.length : Int) ≤ v then [] else vs.getD v.toNat []
/-- the field of an event -/
def fieldR (vals : List Vl) (k : Int) : Vl × Int := if (vals.length : Int) ≤ k then (zeroVl, 6) else (vals.getD k.toNat zeroVl, 0)
/-- the fields of some events, or the error -/
def fieldsR (k : Int) : List Evt → List Vl × Int
  | [] => ([], 0)
  | e :: r => if (fieldR e.vals k).2 ≠ 0 then ([], 6) else ((fieldR e.vals k).1 :: (fieldsR k r).1, (fieldsR k r).2)
def totalR (l : List Evt) (x : Ex) : Vl × Int := if (fieldsR x.fl l).2 ≠ 0 then (zeroVl, 6) else ofR x.kd (fieldsR x.fl l).1 x.val
def lastR (l : List Evt) (b : Bool) (ev : Evt) : Option Evt := if b = true then some ev else l.getLast?
def endR (x : Ex) : Option Evt → Vl × Int
  | none => (zeroVl, 10)
  | some e => if x.op = 2 then (numV e.tm, 0) else if (fieldR e.vals x.fl).2 ≠ 0 then (zeroVl, 6) else if valE (fieldR e.vals x.fl).1 ≠ 0 then (zeroVl, valE (fieldR e.vals x.fl).1) else ((fieldR e.vals x.fl).1, 0)
def leafR (vs : List (List Evt)) (own : Int) (ev : Evt) (x : Ex) : Vl × Int :=
  if x.op = 0 then (x.val, 0) else if x.op = 3 then (numV (evsAt vs x.vr).length, 0) else if x.op = 4 then totalR (evsAt vs x.vr) x
  else endR x (lastR (evsAt vs x.vr) (decide (x.vr = own)) ev)
/-- whether the kind of an argument suits an operation -/
def okK (op k0 k : Int) : Bool := if 5 ≤ op ∧ op ≤ 8 then decide (k = 0) else if 10 ≤ op ∧ op ≤ 12 then decide (k = 1) else if op = 9 then decide (k = k0) else true
def opE (op : Int) (ks : List Int) : Int := if ks.all (okK op (ks.headD 0)) then 0 else 9
/-- an operation on the first and the last of its arguments -/
def applyR (op : Int) (a b : Vl) : Vl :=
  if op = 5 then numV (IntKind.i64.wrap (a.num + b.num)) else if op = 6 then numV (IntKind.i64.wrap (a.num - b.num))
  else if op = 7 then flagV (decide (a.num < b.num)) else if op = 8 then flagV (decide (a.num ≤ b.num))
  else if op = 9 then flagV (vlEq a b) else if op = 10 then flagV (decide (a.num = 1) && decide (b.num = 1))
  else if op = 11 then flagV (decide (a.num = 1) || decide (b.num = 1)) else flagV (!decide (a.num = 1))
def nodeR (op : Int) (r : List Vl × Int) : Vl × Int :=
  if r.2 ≠ 0 then (zeroVl, r.2) else if opE op (r.1.map (·.kind)) ≠ 0 then (zeroVl, opE op (r.1.map (·.kind)))
  else (applyR op (r.1.headD zeroVl) (r.1.getLastD zeroVl), 0)
mutual
def evalR (vs : List (List Evt)) (own : Int) (ev : Evt) : Ex → Vl × Int
  | .mk o l a b c v => if l.length = 0 then leafR vs own ev (.mk o l a b c v) else nodeR o (evalL vs own ev l)
def evalL (vs : List (List Evt)) (own : Int) (ev : Evt) : List Ex → List Vl × Int
  | [] => ([], 0)
  | a :: r => if (evalR vs own ev a).2 ≠ 0 then ([], (evalR vs own ev a).2) else ((evalR vs own ev a).1 :: (evalL vs own ev r).1, (evalL vs own ev r).2)
end
theorem evalR_eq (vs : List (List Evt)) (own : Int) (ev : Evt) (x : Ex) : evalR vs own ev x = if x.args.length = 0 then leafR vs own ev x else nodeR x.op (evalL vs own ev x.args) := by cases x; rw [evalR]; rfl
theorem evalL_drop {vs : List (List Evt)} {own : Int} {ev : Evt} {l : List Ex} {k : Nat} {a : Ex} (h : l[k]? = some a) :
    evalL vs own ev (l.drop k) = if (evalR vs own ev a).2 ≠ 0 then ([], (evalR vs own ev a).2) else ((evalR vs own ev a).1 :: (evalL vs own ev (l.drop (k + 1))).1, (evalL vs own ev (l.drop (k + 1))).2) := by
  obtain ⟨h1, rfl⟩ := List.getElem?_eq_some_iff.1 h
  rw [List.drop_eq_getElem_cons h1, evalL]
theorem fieldsR_drop {f : Int} {l : List Evt} {k : Nat} {e : Evt} (h : l[k]? = some e) :
    fieldsR f (l.drop k) = if (fieldR e.vals f).2 ≠ 0 then ([], 6) else ((fieldR e.vals f).1 :: (fieldsR f (l.drop (k + 1))).1, (fieldsR f (l.drop (k + 1))).2) := by
  obtain ⟨h1, rfl⟩ := List.getElem?_eq_some_iff.1 h
  rw [List.drop_eq_getElem_cons h1, fieldsR]
theorem fieldR_lt {l : List Vl} {k : Int} (_h0 : 0 ≤ k) (h : k < (l.length : Int)) : fieldR l k = (l.getD k.toNat zeroVl, 0) := if_neg (by omega)
theorem fieldR_ge {l : List Vl} {k : Int} (h : (l.length : Int) ≤ k) : fieldR l k = (zeroVl, 6) := if_pos h
/-- a node without an error in it -/
theorem nodesE_at {x : Ex} (h : nodesE x = 0) : nodeE x = 0 ∧ ∀ (k : Nat) (a : Ex), x.args[k]? = some a → nodesE a = 0 := by
  rw [nodesE_eq] at h
  have h1 : nodeE x = 0 := by
    refine Classical.byContradiction fun hn => ?_
    rw [if_pos hn] at h
    exact hn h
  rw [if_neg (by simpa using h1)] at h
  refine ⟨h1, ?_⟩
  generalize x.args = l at h
  clear h1
  induction l with
  | nil => intro k a hk; simp at hk
  | cons y r ih =>
    rw [nodesEL] at h
    have h2 : nodesE y = 0 := by
      refine Classical.byContradiction fun hn => ?_
      rw [if_pos hn] at h
      exact hn h
    rw [if_neg (by simpa using h2)] at h
    intro k a hk
    cases k with
    | zero => simp at hk; subst hk; exact h2
    | succ k => exact ih h k a (by simpa using hk)
end Go.Proofs.YtclpglgigpjfoaaGreatDoor
namespace Go.Proofs.YtclpglgigpjfoaaGreatDoor
open Go.RowKit

def evaV (v : Value) (own : Int) (ev : Evt) (u : Value) (m : Nat) : Value := .agg #[v, .int .i64 own, .int .i64 ev.src, .int .i64 ev.sq, .int .i64 ev.ty, .int .i64 ev.tm, u, .map (some m)]
theorem blk8 {W : World} {g t : Nat} {a0 a1 a2 a3 a4 a5 a6 a7 : Value} (h : W.heap[g]? = some (.cells [a0, a1, a2, a3, a4, a5, a6, a7].toArray t (0, 0))) :
    W.cell? ⟨g, 0, none⟩ = some a0 ∧ W.cell? ⟨g, 1, none⟩ = some a1 ∧ W.cell? ⟨g, 2, none⟩ = some a2 ∧ W.cell? ⟨g, 3, none⟩ = some a3 ∧ W.cell? ⟨g, 4, none⟩ = some a4 ∧ W.cell? ⟨g, 5, none⟩ = some a5 ∧ W.cell? ⟨g, 6, none⟩ = some a6 ∧ W.cell? ⟨g, 7, none⟩ = some a7 :=
  ⟨blk_cell h 0, blk_cell h 1, blk_cell h 2, blk_cell h 3, blk_cell h 4, blk_cell h 5, blk_cell h 6, blk_cell h 7⟩
theorem blk5 {W : World} {g t : Nat} {a0 a1 a2 a3 a4 : Value} (h : W.heap[g]? = some (.cells [a0, a1, a2, a3, a4].toArray t (0, 0))) :
    W.cell? ⟨g, 0, none⟩ = some a0 ∧ W.cell? ⟨g, 1, none⟩ = some a1 ∧ W.cell? ⟨g, 2, none⟩ = some a2 ∧ W.cell? ⟨g, 3, none⟩ = some a3 ∧ W.cell? ⟨g, 4, none⟩ = some a4 :=
  ⟨blk_cell h 0, blk_cell h 1, blk_cell h 2, blk_cell h 3, blk_cell h 4⟩
set_option maxHeartbeats 1000000 in
theorem evsof_any (vs : List (List Evt)) (v : Value) (own : Int) (ev : Evt) (Au : Option Addr) (nu cu m : Nat) (k : Int) (w : World) (hv : IsVars w v vs) :
    Calls Tryz.prog 171 #[evaV v own ev (.slice Au nu cu) m, .int .i64 k] w fun e w' => ∃ A c, e = .returned (.slice A (evsAt vs k).length c) ∧ IsEvts w' (.slice A (evsAt vs k).length c) (evsAt vs k) ∧ Below w.heap.size w w' := by
  obtain ⟨A, c, rfl, h1, h2, hat⟩ := hv
  have hn63 := len_i64 h1 h2
  have HL := Lib.hid hat
  clear hat h1 h2
  unfold evaV
  by_cases c1 : k < 0
  · have e : evsAt vs k = [] := if_pos (.inl c1)
    rw [e]
    go_enter Tryz.func171, Tryz.ntmps171
    go_wp2_with fail
    go_ret
    exact ⟨none, 0, rfl, Sl.nil _ _ _ _ _ (Nat.zero_le _), (by repeat (first | exact Below.refl _ _ | assumption | refine Below.drew ?_ | refine bel_al ?_ _ | refine bel_set ?_ (by omega) _ | refine bel_tr ?_ (by assumption)))⟩
  by_cases c2 : (vs.length : Int) ≤ k
  · have e : evsAt vs k = [] := if_pos (.inr c2)
    rw [e]
    go_enter Tryz.func171, Tryz.ntmps171
    go_wp2_with fail
    go_ret
    exact ⟨none, 0, rfl, Sl.nil _ _ _ _ _ (Nat.zero_le _), (by repeat (first | exact Below.refl _ _ | assumption | refine Below.drew ?_ | refine bel_al ?_ _ | refine bel_set ?_ (by omega) _ | refine bel_tr ?_ (by assumption)))⟩
  obtain ⟨n, rfl⟩ : ∃ n : Nat, k = n := ⟨k.toNat, by omega⟩
  have hlt : n < vs.length := by omega
  have e : evsAt vs n = vs[n] := by unfold evsAt; rw [if_neg (by omega)]; simp [List.getD_eq_getElem?_getD, hlt]
  obtain ⟨b, o, rfl, v', hv', hc⟩ := HL.out n vs[n] (List.getElem?_eq_getElem hlt)
  rw [e]
  have HV := Lib.hid hv'
  obtain ⟨A', c', rfl, -⟩ := hv'
  have hbn : b < w.heap.size := World.block_lt_of_cell? w ⟨b, _, none⟩ hc
  have hbn' : b ≠ w.heap.size := by omega
  rw [Nat.mul_one] at hc
  clear e
  go_enter Tryz.func171, Tryz.ntmps171
  go_wp2_with fail
  go_ret
  exact ⟨A', c', rfl, HV.out.stays evtAt_stays (by repeat (first | exact Below.refl _ _ | assumption | refine Below.drew ?_ | refine bel_al ?_ _ | refine bel_set ?_ (by omega) _ | refine bel_tr ?_ (by assumption))), (by repeat (first | exact Below.refl _ _ | assumption | refine Below.drew ?_ | refine bel_al ?_ _ | refine bel_set ?_ (by omega) _ | refine bel_tr ?_ (by assumption)))⟩
set_option maxHeartbeats 1000000 in
theorem revsof_any (vs : List (List Evt)) (v : Value) (k : Int) (w : World) (hv : IsVars w v vs) :
    Calls Tryz.prog 176 #[.agg #[v], .int .i64 k] w fun e w' => ∃ A c, e = .returned (.slice A (evsAt vs k).length c) ∧ IsEvts w' (.slice A (evsAt vs k).length c) (evsAt vs k) ∧ Below w.heap.size w w' := by
  obtain ⟨A, c, rfl, h1, h2, hat⟩ := hv
  have hn63 := len_i64 h1 h2
  have HL := Lib.hid hat
  clear hat h1 h2
  by_cases c1 : k < 0
  · have e : evsAt vs k = [] := if_pos (.inl c1)
    rw [e]
    go_enter Tryz.func176, Tryz.ntmps176
    go_wp2_with fail
    go_ret
    exact ⟨none, 0, rfl, Sl.nil _ _ _ _ _ (Nat.zero_le _), (by repeat (first | exact Below.refl _ _ | assumption | refine Below.drew ?_ | refine bel_al ?_ _ | refine bel_set ?_ (by omega) _ | refine bel_tr ?_ (by assumption)))⟩
  by_cases c2 : (vs.length : Int) ≤ k
  · have e : evsAt vs k = [] := if_pos (.inr c2)
    rw [e]
    go_enter Tryz.func176, Tryz.ntmps176
    go_wp2_with fail
    go_ret
    exact ⟨none, 0, rfl, Sl.nil _ _ _ _ _ (Nat.zero_le _), (by repeat (first | exact Below.refl _ _ | assumption | refine Below.drew ?_ | refine bel_al ?_ _ | refine bel_set ?_ (by omega) _ | refine bel_tr ?_ (by assumption)))⟩
  obtain ⟨n, rfl⟩ : ∃ n : Nat, k = n := ⟨k.toNat, by omega⟩
  have hlt : n < vs.length := by omega
  have e : evsAt vs n = vs[n] := by unfold evsAt; rw [if_neg (by omega)]; simp [List.getD_eq_getElem?_getD, hlt]
  obtain ⟨b, o, rfl, v', hv', hc⟩ := HL.out n vs[n] (List.getElem?_eq_getElem hlt)
  rw [e]
  have HV := Lib.hid hv'
  obtain ⟨A', c', rfl, -⟩ := hv'
  have hbn : b < w.heap.size := World.block_lt_of_cell? w ⟨b, _, none⟩ hc
  have hbn' : b ≠ w.heap.size := by omega
  rw [Nat.mul_one] at hc
  clear e
  go_enter Tryz.func176, Tryz.ntmps176
  go_wp2_with fail
  go_ret
  exact ⟨A', c', rfl, HV.out.stays evtAt_stays (by repeat (first | exact Below.refl _ _ | assumption | refine Below.drew ?_ | refine bel_al ?_ _ | refine bel_set ?_ (by omega) _ | refine bel_tr ?_ (by assumption))), (by repeat (first | exact Below.refl _ _ | assumption | refine Below.drew ?_ | refine bel_al ?_ _ | refine bel_set ?_ (by omega) _ | refine bel_tr ?_ (by assumption)))⟩
/-- the cells of a value in a list -/
theorem vls_cells {w : World} {A : Option Addr} {c : Nat} {l : List Vl} (h : IsVls w (.slice A l.length c) l) {k : Nat} (hk : k < l.length) : ∃ b o, A = some ⟨b, o, none⟩ ∧ b < w.heap.size ∧
    w.cell? ⟨b, o + k * 3, none⟩ = some (.int .i64 (l.getD k zeroVl).kind) ∧ w.cell? ⟨b, o + k * 3 + 1, none⟩ = some (.int .i64 (l.getD k zeroVl).num) ∧ w.cell? ⟨b, o + k * 3 + 2, none⟩ = some (.string (l.getD k zeroVl).text) := by
  obtain ⟨A', c', e, h1, h2, hat⟩ := h
  injection e with e1 e2 e3
  subst e1 e3
  obtain ⟨b, o, rfl, h0, h1, h2⟩ := hat k l[k] (List.getElem?_eq_getElem hk)
  have hd : l.getD k zeroVl = l[k] := by simp [List.getD_eq_getElem?_getD, hk]
  rw [hd]
  exact ⟨b, o, rfl, World.block_lt_of_cell? w ⟨b, _, none⟩ h0, h0, h1, h2⟩
set_option maxHeartbeats 1000000 in
theorem field_any (x : Evt) (u : Value) (k : Int) (w : World) (hu : IsVls w u x.vals) (h0 : 0 ≤ k) :
    Calls Tryz.prog 173 #[evtV x u, .int .i64 k] w fun e w' => e = .returned (.tuple #[vlV (fieldR x.vals k).1, .int .i64 (fieldR x.vals k).2]) ∧ Below w.heap.size w w' := by
  have HU := Lib.hid hu
  obtain ⟨A, c, rfl, h1, h2, -⟩ := hu
  have hn63 := len_i64 h1 h2
  clear h1 h2
  unfold evtV
  by_cases c1 : (x.vals.length : Int) ≤ k
  · rw [fieldR_ge c1]
    unfold vlV zeroVl
    go_enter Tryz.func173, Tryz.ntmps173
    go_wp2_with fail
    exact bodyPost_ret (v := .tuple #[.agg #[.int .i64 0, .int .i64 0, .string ⟨#[]⟩], .int .i64 6]) (by simp [results, Tryz.results173, go_sem]) rfl ⟨rfl, (by repeat (first | exact Below.refl _ _ | assumption | refine Below.drew ?_ | refine bel_al ?_ _ | refine bel_set ?_ (by omega) _ | refine bel_tr ?_ (by assumption)))⟩
  have c2 : k < (x.vals.length : Int) := by omega
  rw [fieldR_lt h0 c2]
  obtain ⟨n, rfl⟩ : ∃ n : Nat, k = n := ⟨k.toNat, by omega⟩
  rw [Int.toNat_natCast]
  obtain ⟨b, o, rfl, hb, p0, p1, p2⟩ := vls_cells HU.out (k := n) (by omega)
  obtain ⟨y, hy⟩ : ∃ y, x.vals.getD n zeroVl = y := ⟨_, rfl⟩
  rw [hy] at p0 p1 p2 ⊢
  clear hy
  have hbn : b ≠ w.heap.size := by omega
  have hbn1 : b ≠ w.heap.size + 1 := by omega
  unfold vlV
  go_enter Tryz.func173, Tryz.ntmps173
  go_wp2_with fail
  exact bodyPost_ret (v := .tuple #[.agg #[.int .i64 y.kind, .int .i64 y.num, .string y.text], .int .i64 0]) (by simp [results, Tryz.results173, go_sem]) rfl ⟨rfl, (by repeat (first | exact Below.refl _ _ | assumption | refine Below.drew ?_ | refine bel_al ?_ _ | refine bel_set ?_ (by omega) _ | refine bel_tr ?_ (by assumption)))⟩
end Go.Proofs.YtclpglgigpjfoaaGreatDoor
namespace Go.Proofs.YtclpglgigpjfoaaGreatDoor
open Go.RowKit

set_option maxRecDepth 100000 in
set_option maxHeartbeats 4000000 in
theorem total_any (vs : List (List Evt)) (v : Value) (own : Int) (ev : Evt) (Au : Option Addr) (nu cu m : Nat) (x : Ex) (Ax : Option Addr) (nx cx : Nat) (w : World) (hv : IsVars w v vs) (hf : 0 ≤ x.fl) (hsm : (evsAt vs x.vr).length ≤ 1048576) :
    Calls Tryz.prog 172 #[evaV v own ev (.slice Au nu cu) m, exV x (.slice Ax nx cx)] w fun e w' =>
      e = .returned (.tuple #[vlV (totalR (evsAt vs x.vr) x).1, .int .i64 (totalR (evsAt vs x.vr) x).2]) ∧ Below w.heap.size w w' := by
  have HV := Lib.hid hv
  obtain ⟨A, c, rfl, -⟩ := hv
  have HEV := Lib.hid (fun W (hW : Below w.heap.size w W) => evsof_any vs _ own ev Au nu cu m x.vr W (HV.out.stays varAt_stays hW))
  obtain ⟨evs, hevs⟩ : ∃ e, evsAt vs x.vr = e := ⟨_, rfl⟩
  rw [hevs] at HEV hsm ⊢
  clear hevs
  obtain ⟨⟨RV, re⟩, hR⟩ : ∃ r, totalR evs x = r := ⟨_, rfl⟩
  rw [hR]
  obtain ⟨op, l, vr, fl, kd, vl⟩ := x
  obtain ⟨FR, hFR⟩ : ∃ r, fieldsR fl evs = r := ⟨_, rfl⟩
  have HR : Hid ((if FR.2 ≠ 0 then (zeroVl, 6) else ofR kd FR.1 vl) = (RV, re)) := Lib.hid (by rw [← hR, ← hFR]; rfl)
  have HFR := Lib.hid hFR
  clear hR hFR
  unfold evaV exV at *
  simp only [Ex.op, Ex.vr, Ex.fl, Ex.kd, Ex.val] at *
  unfold vlV
  go_enter Tryz.func172, Tryz.ntmps172
  go_wp2_with fail
  refine calls_gen fun W9 e9 => ?_
  have hX : W9.heap[w.heap.size + 1]? = some (.cells [.int .i64 op, .slice Ax nx cx, .int .i64 vr, .int .i64 fl, .int .i64 kd, .int .i64 vl.kind, .int .i64 vl.num, .string vl.text].toArray 90 (0, 0)) := by
    rw [e9]; repeat (first | exact heap_new' _ _ _ (by simp) | apply heap_old)
  have hB : VBox W9 (w.heap.size + 2) := ⟨.int .i64 0, .int .i64 0, .string ⟨#[]⟩, by rw [e9]; repeat (first | exact heap_new' _ _ _ (by simp) | apply heap_old)⟩
  have hb9 : Below w.heap.size w W9 := by rw [e9]; exact (by repeat (first | exact Below.refl _ _ | assumption | refine Below.drew ?_ | refine bel_al ?_ _ | refine bel_set ?_ (by omega) _ | refine bel_tr ?_ (by assumption)))
  clear e9
  refine (HEV.out _ hb9).mono ?_
  rintro e w1 ⟨A1, c1, rfl, hl, hb1⟩
  have HX := Lib.hid (heap_stays hb1 hX)
  have HB := Lib.hid (hB.stays hb1)
  have HW1 := Lib.hid (bel_tr hb9 hb1)
  obtain ⟨h1, h2, hat⟩ : evs.length ≤ c1 ∧ c1 ≤ maxLen ∧ ∀ k x, evs[k]? = some x → ∃ b o, A1 = some ⟨b, o, none⟩ ∧ EvtAt w1 b (o + k * 5) x := by
    obtain ⟨A', c', e, h1, h2, h3⟩ := hl
    injection e with e1 e2 e3
    subst e1 e3
    exact ⟨h1, h2, h3⟩
  have hn63 := len_i64 h1 h2
  have HL := Lib.hid hat
  have HSM := Lib.hid hsm
  have hXl : w.heap.size + 2 < w1.heap.size := HB.out.lt
  obtain ⟨X, hXe⟩ : ∃ X, X = w.heap.size + 1 := ⟨_, rfl⟩
  have hX2 : X + 1 < w1.heap.size := by omega
  have hX3 : w.heap.size ≤ X := by omega
  rw [show w.heap.size + 2 = w.heap.size + 1 + 1 from rfl] at HB
  rw [← hXe] at HX HB ⊢
  clear hX hB hb9 hb1 hl h1 h2 hat hsm hXl hXe
  obtain ⟨i0, hi, hz0, hz1, hz2⟩ := info_parts info_vl
  go_wp2_with fail
  go_loopw [6, 16] (fun av i wr => ∃ (k : Nat) (pre : List Vl), k ≤ evs.length ∧ pre.length = k ∧ i = .int .i64 k ∧ Hid (wr.ownsRow w1.heap.size 88 3 av k (vlCells pre)) ∧ Hid ((pre ++ (fieldsR fl (evs.drop k)).1, (fieldsR fl (evs.drop k)).2) = FR ∧ Below w1.heap.size w1 wr)) (fun _ i _ => evs.length - (intOf i).toNat)
  case atStart => exact ⟨0, [], Nat.zero_le _, rfl, rfl, Lib.hid ⟨rfl, .inl ⟨rfl, rfl⟩⟩, Lib.hid ⟨by rw [List.drop_zero, HFR.out]; rfl, Below.refl _ _⟩⟩
  case round =>
    obtain ⟨k, pre, hk, hpl, rfl, hrow, hI⟩ := hrel
    have hb := hI.out.2
    obtain ⟨Ar, cr, rfl⟩ := slice_own hrow.out
    have hsz := hb.size
    have HXr := Lib.hid (heap_stays hb HX.out)
    have HBr := Lib.hid (HB.out.stays hb)
    obtain ⟨q0, q1, q2, q3, q4, q5, q6, q7⟩ := blk8 HXr.out
    by_cases hlt : k < evs.length
    · have hk' : (k : Int) < (evs.length : Int) := by omega
      obtain ⟨b, o, rfl, v', hv', p0, p1, p2, p3, p4⟩ := HL.out k evs[k] (List.getElem?_eq_getElem hlt)
      have hg := Lib.hid (List.getElem?_eq_getElem hlt)
      obtain ⟨a, ha⟩ : ∃ a, a = evs[k] := ⟨_, rfl⟩
      rw [← ha] at hg hv' p0 p1 p2 p3
      clear ha
      replace p0 := cell_stays hb p0
      replace p1 := cell_stays hb p1
      replace p2 := cell_stays hb p2
      replace p3 := cell_stays hb p3
      replace p4 := cell_stays hb p4
      have HV' := Lib.hid (hv'.stays vlAt_stays hb)
      obtain ⟨A', c', rfl, -⟩ := hv'
      obtain ⟨⟨fv, fe⟩, hfr⟩ : ∃ r, fieldR a.vals fl = r := ⟨_, rfl⟩
      have HF := Lib.hid (fun W (hW : Below wr.heap.size wr W) => field_any a _ fl W (HV'.out.stays vlAt_stays hW) hf)
      rw [hfr] at HF
      unfold evtV vlV at HF
      have HFE := Lib.hid hfr
      have hxn : X ≠ wr.heap.size := by omega
      have hxn1 : X + 1 ≠ wr.heap.size := by omega
      have hxl : X < wr.heap.size := by omega
      have hxl1 : X + 1 < wr.heap.size := by omega
      clear hfr
      go_wp2_with fail
      refine (HF.out _ ?_).mono ?_
      · exact (by repeat (first | exact Below.refl _ _ | assumption | refine Below.drew ?_ | refine bel_al ?_ _ | refine bel_set ?_ (by omega) _ | refine bel_tr ?_ (by assumption)))
      rintro e w2 ⟨rfl, hb2⟩
      have HB2r : Hid (Below wr.heap.size wr w2) := Lib.hid (bel_tr (by exact (by repeat (first | exact Below.refl _ _ | assumption | refine Below.drew ?_ | refine bel_al ?_ _ | refine bel_set ?_ (by omega) _ | refine bel_tr ?_ (by assumption)))) hb2)
      have HB2 := Lib.hid (bel_tr hb HB2r.out)
      have HBx := Lib.hid (HB.out.stays HB2.out)
      have hs2 := HB2.out.size
      have hxl2 : X + 1 < w2.heap.size := HBx.out.lt
      have hxn2 : X + 1 ≠ w2.heap.size := by omega
      have h := hI.out.1
      rw [fieldsR_drop hg.out, HFE.out] at h
      by_cases hz : fe = 0
      case neg =>
        rw [if_pos hz] at h
        have h6 : fe = 6 := by
          have h := HFE.out
          unfold fieldR at h
          split at h
          · injection h with _ h; exact h.symm
          · injection h with _ h; exact absurd h.symm hz
        subst h6
        obtain ⟨e1, e2⟩ : zeroVl = RV ∧ 6 = re := by
          have h2 := HR.out
          rw [← h, if_pos (by simp)] at h2
          injection h2 with e1 e2
          exact ⟨e1, e2⟩
        subst e1 e2
        obtain ⟨a0, b0, c0, z0, z1, z2, f0, f1, f2⟩ := HBx.out.facts
        clear h hz
        go_wp2_with fail
        exact bodyPost_ret (v := .tuple #[.agg #[.int .i64 0, .int .i64 0, .string ⟨#[]⟩], .int .i64 6]) (by simp [results, Tryz.results172, go_sem, cell_set_self, z0, z1, z2, hxl2]) rfl ⟨rfl, bel_al (bel_3 (bel_tr HW1.out HB2.out) (by omega) _ _ _) _⟩
      subst hz
      rw [if_neg (by simp)] at h
      have HH := Lib.hid h
      clear h
      have hks : k < 1048576 := by have := HSM.out; omega
      have HB3 := Lib.hid (bel_al (bel_al HB2r.out (.cells #[.int .i64 fv.kind, .int .i64 fv.num, .string fv.text] 88 (0, 0))) (.cells #[.int .i64 fv.kind, .int .i64 fv.num, .string fv.text] 88 (0, 0)))
      go_wp2_with (at_builtin; refine wpList_app _ rfl (.tmp 31) (.tmp 33) 69 rfl w1.heap.size 88 i0 _ 3 32 Tryz.underlying69 hi hz0 hz1 hz2 rfl (by decide) (.slice Ar k cr) k (vlCells pre) rfl (ownsRow_below hrow.out HB3.out) (some ⟨w2.heap.size + 1, 0, none⟩) 1 1 [.int .i64 fv.kind, .int .i64 fv.num, .string fv.text] rfl (src_new' _ [.int .i64 fv.kind, .int .i64 fv.num, .string fv.text] _ 1 3 _ (by simp) rfl (by intro u hu; simp only [List.mem_cons, List.not_mem_nil, or_false] at hu; rcases hu with rfl | rfl | rfl <;> rfl)) (by unfold maxLen; omega) (by omega) (by have := HB3.out.size; omega) ?_; intro v8 w8 hown8 hg8 hloc8)
      have hb8 : Below w1.heap.size w1 w8 := (bel_tr hb HB3.out).trans (grown_below hg8 (by have := HB3.out.size; omega) (fun g h => (ownsRow_lt hrow.out h).1))
      refine ⟨⟨k + 1, pre ++ [fv], by omega, by simp [hpl], by go_num, Lib.hid ?_, Lib.hid ⟨?_, hb8⟩⟩, by simp [intOf]; omega⟩
      · rw [vlCells_snoc]; exact hown8
      · have h := HH.out
        rw [List.append_assoc]
        exact h
    · have hk' : ¬ (k : Int) < (evs.length : Int) := by omega
      have HVL : Hid (IsVls wr (.slice Ar k cr) pre) := Lib.hid (vlRow_is (by rw [hpl]; exact hrow.out))
      have hFR : FR = (pre, 0) := by
        have h := hI.out.1
        rw [List.drop_of_length_le (by omega), fieldsR, List.append_nil] at h
        exact h.symm
      have hOf : ofR kd pre vl = (RV, re) := by
        have h := HR.out
        rw [hFR, if_neg (by simp)] at h
        exact h
      have HO := Lib.hid (fun W (hW : Below wr.heap.size wr W) => aof_any kd pre vl _ W (HVL.out.stays vlAt_stays hW))
      rw [hOf] at HO
      unfold vlV at HO
      clear hFR hOf
      go_wp2_with fail
      refine (HO.out _ (Below.refl _ _)).mono ?_
      rintro e w2 ⟨rfl, hb2⟩
      obtain ⟨a0, b0, c0, z0, z1, z2, f0, f1, f2⟩ := (HBr.out.stays hb2).facts
      go_wp2_with fail
      exact bodyPost_ret (v := .tuple #[.agg #[.int .i64 RV.kind, .int .i64 RV.num, .string RV.text], .int .i64 re]) (by simp [results, Tryz.results172, go_sem, cell_set_self, z0, z1, z2]) rfl ⟨rfl, bel_3 (bel_tr HW1.out (bel_tr hb hb2)) (by omega) _ _ _⟩
end Go.Proofs.YtclpglgigpjfoaaGreatDoor
namespace Go.Proofs.YtclpglgigpjfoaaGreatDoor
open Go.RowKit

theorem all_drop {p : Int → Bool} {l : List Int} {k : Nat} {a : Int} (h : l[k]? = some a) : (l.drop k).all p = (p a && (l.drop (k + 1)).all p) := by
  obtain ⟨h1, rfl⟩ := List.getElem?_eq_some_iff.1 h
  rw [List.drop_eq_getElem_cons h1, List.all_cons]
theorem okK_is {op k0 x : Int} {b : Bool} (h1 : 5 ≤ op ∧ op ≤ 8 → decide (x = 0) = b) (h2 : 10 ≤ op ∧ op ≤ 12 → decide (x = 1) = b) (h3 : op = 9 → decide (x = k0) = b) (h4 : op < 5 ∨ 12 < op → b = true) : okK op k0 x = b := by
  unfold okK
  split
  · next h => exact h1 h
  · split
    · next h => exact h2 h
    · split
      · next h => exact h3 h
      · exact (h4 (by omega)).symm
set_option maxRecDepth 100000 in
set_option maxHeartbeats 2000000 in
theorem operands_any (op : Int) (ks : List Int) (v : Value) (w : World) (hk : IsNums w v ks) :
    Calls Tryz.prog 153 #[.int .i64 op, v] w fun e w' => e = .returned (.int .i64 (opE op ks)) ∧ Below w.heap.size w w' := by
  obtain ⟨A, c, rfl, h1, h2, hat⟩ := hk
  have hn63 := len_i64 h1 h2
  have HL := Lib.hid hat
  obtain ⟨R, hR⟩ : ∃ R, opE op ks = R := ⟨_, rfl⟩
  obtain ⟨k0, hk0⟩ : ∃ k0, ks.headD 0 = k0 := ⟨_, rfl⟩
  have HR : Hid ((if ks.all (okK op k0) then (0 : Int) else 9) = R) := Lib.hid (by rw [← hR, ← hk0]; rfl)
  have HK := Lib.hid hk0
  rw [hR]
  clear hR hk0 hat h1 h2
  go_enter Tryz.func153, Tryz.ntmps153
  go_wp2_with fail
  go_loopw [10] (fun i wr => ∃ k : Nat, k ≤ ks.length ∧ i = .int .i64 k ∧ Hid ((if (ks.drop k).all (okK op k0) then (0 : Int) else 9) = R) ∧ wr = w) (fun i _ => ks.length - (intOf i).toNat)
  case atStart => exact ⟨0, Nat.zero_le _, rfl, Lib.hid HR.out, rfl⟩
  case round =>
    obtain ⟨k, hk, rfl, hI, rfl⟩ := hrel
    by_cases hlt : k < ks.length
    · have hk' : (k : Int) < (ks.length : Int) := by omega
      obtain ⟨b, o, rfl, hea⟩ := HL.out k ks[k] (List.getElem?_eq_getElem hlt)
      have hg := Lib.hid (List.getElem?_eq_getElem hlt)
      obtain ⟨a, ha⟩ : ∃ a, a = ks[k] := ⟨_, rfl⟩
      rw [← ha] at hg hea
      clear ha
      have he0 : wr.cell? ⟨b, o, none⟩ = some (.int .i64 k0) := by
        obtain ⟨b', o', e, h0⟩ := HL.out 0 (ks[0]'(by omega)) (List.getElem?_eq_getElem (by omega))
        injection e with e
        injection e with e1 e2
        subst e1 e2
        have h : ks.headD 0 = ks[0]'(by omega) := by rw [List.headD_eq_head?_getD, List.head?_eq_getElem?, List.getElem?_eq_getElem (by omega)]; rfl
        rw [HK.out] at h
        rw [h]
        simpa [InAt] using h0
      unfold InAt at hea
      rw [Nat.mul_one] at hea
      go_wp2_with fail
      all_goals simp only [beq_iff_eq, beq_eq_false_iff_ne, Bool.not_eq_true', Bool.not_eq_false', ne_eq] at *
      all_goals first
        | (exfalso; omega)
        | (go_ret
           have hp : okK op k0 a = false := okK_is (fun h => by first | (exfalso; omega) | (simp; omega)) (fun h => by first | (exfalso; omega) | (simp; omega)) (fun h => by first | (exfalso; omega) | (simp; omega)) (fun h => by exfalso; omega)
           have h := hI.out
           rw [all_drop hg.out, hp] at h
           exact ⟨by rw [← h]; rfl, Below.refl _ _⟩)
        | (refine ⟨⟨k + 1, by omega, by go_num, Lib.hid ?_, trivial⟩, by simp [intOf]; omega⟩
           have hp : okK op k0 a = true := okK_is (fun h => by first | (exfalso; omega) | (simp; omega)) (fun h => by first | (exfalso; omega) | (simp; omega)) (fun h => by first | (exfalso; omega) | (simp; omega)) (fun h => rfl)
           have h := hI.out
           rw [all_drop hg.out, hp, Bool.true_and] at h
           exact h)
    · have hk' : ¬ (k : Int) < (ks.length : Int) := by omega
      obtain rfl : (0 : Int) = R := by
        have h := hI.out
        rw [List.drop_of_length_le (by omega)] at h
        exact h
      go_wp2_with fail
      go_ret
      exact ⟨rfl, Below.refl _ _⟩
end Go.Proofs.YtclpglgigpjfoaaGreatDoor
namespace Go.Proofs.YtclpglgigpjfoaaGreatDoor
open Go.RowKit

def demE (op : Int) : Int := if 5 ≤ op ∧ op ≤ 8 then 0 else if 10 ≤ op ∧ op ≤ 12 then 1 else -1
set_option maxHeartbeats 1000000 in
theorem rdemanded_any (op : Int) (w : World) : Calls Tryz.prog 180 #[.int .i64 op] w fun e w' => e = .returned (.int .i64 (demE op)) ∧ Below w.heap.size w w' := by
  obtain ⟨R, hR⟩ : ∃ R, demE op = R := ⟨_, rfl⟩
  have HR := Lib.hid hR
  rw [hR]
  clear hR
  go_enter Tryz.func180, Tryz.ntmps180
  go_wp2_with fail
  all_goals simp only [beq_iff_eq, beq_eq_false_iff_ne, ne_eq] at *
  all_goals first
    | (exfalso; omega)
    | (go_ret; exact ⟨ret_i (by rw [← HR.out]; unfold demE; ((try simp only [isEmpty_size, Bool.not_eq_true', Bool.not_eq_false', decide_eq_false_iff_not, decide_eq_true_eq, beq_iff_eq, bne_iff_ne, beq_eq_false_iff_ne, bne_eq_false_iff_eq, ne_eq, Bool.and_eq_true, Bool.or_eq_true, Bool.and_eq_false_iff, Bool.or_eq_false_iff, Bool.not_true, Bool.not_false, Bool.true_eq, Bool.false_eq] at *); (repeat' split) <;> first | rfl | omega | (exfalso; simp_all; done) | (exfalso; simp_all; omega))), Below.refl _ _⟩)
theorem okK_dem (op k0 a : Int) : okK op k0 a = !((decide (0 ≤ demE op) && (a != demE op)) || ((op == 9) && (a != k0))) := by
  unfold okK demE
  by_cases c1 : 5 ≤ op ∧ op ≤ 8
  · rw [if_pos c1, if_pos c1]
    have : (op == 9) = false := by rw [beq_eq_false_iff_ne]; omega
    rw [this]
    by_cases h : a = 0 <;> simp [h]
  · rw [if_neg c1, if_neg c1]
    by_cases c2 : 10 ≤ op ∧ op ≤ 12
    · rw [if_pos c2, if_pos c2]
      have : (op == 9) = false := by rw [beq_eq_false_iff_ne]; omega
      rw [this]
      by_cases h : a = 1 <;> simp [h]
    · rw [if_neg c2, if_neg c2]
      by_cases c3 : op = 9
      · by_cases h : a = k0 <;> simp [c3, h]
      · simp [c3]
set_option maxRecDepth 100000 in
set_option maxHeartbeats 4000000 in
theorem roperands_any (op : Int) (ks : List Int) (v : Value) (w : World) (hk : IsNums w v ks) :
    Calls Tryz.prog 156 #[.int .i64 op, v] w fun e w' => e = .returned (.int .i64 (opE op ks)) ∧ Below w.heap.size w w' := by
  obtain ⟨A, c, rfl, h1, h2, hat⟩ := hk
  have hn63 := len_i64 h1 h2
  have HL := Lib.hid hat
  obtain ⟨R, hR⟩ : ∃ R, opE op ks = R := ⟨_, rfl⟩
  obtain ⟨k0, hk0⟩ : ∃ k0, ks.headD 0 = k0 := ⟨_, rfl⟩
  have HR : Hid ((if ks.all (okK op k0) then (0 : Int) else 9) = R) := Lib.hid (by rw [← hR, ← hk0]; rfl)
  have HK := Lib.hid hk0
  rw [hR]
  have HD := Lib.hid (fun W => rdemanded_any op W)
  obtain ⟨d, hd⟩ : ∃ d, demE op = d := ⟨_, rfl⟩
  rw [hd] at HD
  have HOK := Lib.hid (fun a => okK_dem op k0 a)
  rw [hd] at HOK
  obtain ⟨bd, hbd⟩ : ∃ b, decide (0 ≤ d) = b := ⟨_, rfl⟩
  obtain ⟨b9, hb9⟩ : ∃ b, (op == 9) = b := ⟨_, rfl⟩
  rw [hbd, hb9] at HOK
  clear hR hk0 hat h1 h2 hd
  go_enter Tryz.func156, Tryz.ntmps156
  go_wp2_with fail
  go_loopw [5] (fun i wr => ∃ k : Nat, k ≤ ks.length ∧ i = .int .i64 k ∧ Hid ((if (ks.drop k).all (okK op k0) then (0 : Int) else 9) = R) ∧ Hid (Below w.heap.size w wr)) (fun i _ => ks.length - (intOf i).toNat)
  case atStart => exact ⟨0, Nat.zero_le _, rfl, Lib.hid HR.out, Lib.hid (Below.refl _ _)⟩
  case round =>
    obtain ⟨k, hk, rfl, hI, HB⟩ := hrel
    by_cases hlt : k < ks.length
    · have hk' : (k : Int) < (ks.length : Int) := by omega
      obtain ⟨b, o, rfl, hea⟩ := HL.out k ks[k] (List.getElem?_eq_getElem hlt)
      have hg := Lib.hid (List.getElem?_eq_getElem hlt)
      obtain ⟨a, ha⟩ : ∃ a, a = ks[k] := ⟨_, rfl⟩
      rw [← ha] at hg hea
      clear ha
      have he0 : w.cell? ⟨b, o, none⟩ = some (.int .i64 k0) := by
        obtain ⟨b', o', e, h0⟩ := HL.out 0 (ks[0]'(by omega)) (List.getElem?_eq_getElem (by omega))
        injection e with e
        injection e with e1 e2
        subst e1 e2
        have h : ks.headD 0 = ks[0]'(by omega) := by rw [List.headD_eq_head?_getD, List.head?_eq_getElem?, List.getElem?_eq_getElem (by omega)]; rfl
        rw [HK.out] at h
        rw [h]
        simpa [InAt] using h0
      unfold InAt at hea
      rw [Nat.mul_one] at hea
      have hp := HOK.out a
      obtain ⟨bk, hbk⟩ : ∃ b, (a != d) = b := ⟨_, rfl⟩
      obtain ⟨b0, hb0⟩ : ∃ b, (a != k0) = b := ⟨_, rfl⟩
      rw [hbk, hb0] at hp
      have h := hI.out
      rw [all_drop hg.out, hp] at h
      have HH := Lib.hid h
      clear h hp
      go_wp2_with fail
      refine (HD.out _).mono ?_
      rintro e w1 ⟨rfl, hb1⟩
      have hea := cell_stays hb1 (cell_stays HB.out hea)
      have he0 := cell_stays hb1 (cell_stays HB.out he0)
      have HB1 := Lib.hid (bel_tr HB.out hb1)
      clear hb1
      cases bd <;> cases bk <;> cases b9 <;> cases b0
      all_goals
        go_wp2_with fail
        refine wp_region_F (fun W => W.cell? ⟨b, o + k, none⟩ = some (.int .i64 a) ∧ W.cell? ⟨b, o, none⟩ = some (.int .i64 k0)) (by repeat (first | exact grows_cell _ _ _ | exact grows_true | refine grows_and ?_ ?_)) (by kernel_rfl) (by kernel_rfl) ?hF ?_; (case hF => (first | exact ⟨‹_›, ‹_›⟩ | (go_simp; done) | (simp [*]; done) | (repeat' (first | (refine And.intro ?_ ?_) | (go_simp; done) | exact cell_stays (bel_al (Below.refl _ _) _) (by assumption) | assumption)))); intro hne hxx; have hG : Hid (Grows (fun W => W.cell? ⟨b, o + k, none⟩ = some (.int .i64 a) ∧ W.cell? ⟨b, o, none⟩ = some (.int .i64 k0))) := (by repeat (first | exact grows_cell _ _ _ | exact grows_true | refine grows_and ?_ ?_)); (repeat (go_big_quiet_step (fail))); clear hG hxx hne; refine wpQuiet_nil ?_; rintro _ ⟨⟨w', hb', hF'⟩, rfl⟩
        go_wp2_with fail
        first
          | (go_ret
             exact ⟨ret_i HH.out, bel_tr HB1.out hb'⟩)
          | (go_roundw
             case rel => exact ⟨k + 1, by omega, by go_num, Lib.hid HH.out, Lib.hid (bel_tr HB1.out hb')⟩
             case measure => simp [intOf]; omega)
    · have hk' : ¬ (k : Int) < (ks.length : Int) := by omega
      obtain rfl : (0 : Int) = R := by
        have h := hI.out
        rw [List.drop_of_length_le (by omega)] at h
        exact h
      go_wp2_with fail
      go_ret
      exact ⟨rfl, HB.out⟩
end Go.Proofs.YtclpglgigpjfoaaGreatDoor
namespace Go.Proofs.YtclpglgigpjfoaaGreatDoor
open Go.RowKit

theorem evs_last {w : World} {A : Option Addr} {c : Nat} {l : List Evt} (h : IsEvts w (.slice A l.length c) l) {k : Nat} {e : Evt} (hk : l[k]? = some e) : ∃ b o A' c', A = some ⟨b, o, none⟩ ∧ b < w.heap.size ∧ IsVls w (.slice A' e.vals.length c') e.vals ∧
    w.cell? ⟨b, o + k * 5, none⟩ = some (.int .i64 e.src) ∧ w.cell? ⟨b, o + k * 5 + 1, none⟩ = some (.int .i64 e.sq) ∧ w.cell? ⟨b, o + k * 5 + 2, none⟩ = some (.int .i64 e.ty) ∧ w.cell? ⟨b, o + k * 5 + 3, none⟩ = some (.int .i64 e.tm) ∧ w.cell? ⟨b, o + k * 5 + 4, none⟩ = some (.slice A' e.vals.length c') := by
  obtain ⟨A1, c1, e1, h1, h2, hat⟩ := h
  injection e1 with e1 e2 e3
  subst e1 e3
  obtain ⟨b, o, rfl, v, hv, p0, p1, p2, p3, p4⟩ := hat k e hk
  have hv2 := hv
  obtain ⟨A', c', rfl, -⟩ := hv2
  exact ⟨b, o, A', c', rfl, World.block_lt_of_cell? w ⟨b, _, none⟩ p0, hv, p0, p1, p2, p3, p4⟩
section
variable {vs : List (List Evt)} {own : Int} {ev e : Evt} {l : List Ex} {vr fl kd : Int} {vl : Vl} {evs : List Evt}
theorem leafR_0 : leafR vs own ev (.mk 0 l vr fl kd vl) = (vl, 0) := rfl
theorem leafR_3 : leafR vs own ev (.mk 3 l vr fl kd vl) = (numV (evsAt vs vr).length, 0) := rfl
theorem leafR_4 : leafR vs own ev (.mk 4 l vr fl kd vl) = totalR (evsAt vs vr) (.mk 4 l vr fl kd vl) := rfl
theorem leafR_1 : leafR vs own ev (.mk 1 l vr fl kd vl) = endR (.mk 1 l vr fl kd vl) (lastR (evsAt vs vr) (decide (vr = own)) ev) := rfl
theorem leafR_2 : leafR vs own ev (.mk 2 l vr fl kd vl) = endR (.mk 2 l vr fl kd vl) (lastR (evsAt vs vr) (decide (vr = own)) ev) := rfl
theorem endR_1 : endR (.mk 1 l vr fl kd vl) (some e) = if (fieldR e.vals fl).2 ≠ 0 then (zeroVl, 6) else if valE (fieldR e.vals fl).1 ≠ 0 then (zeroVl, valE (fieldR e.vals fl).1) else ((fieldR e.vals fl).1, 0) := rfl
theorem endR_2 : endR (.mk 2 l vr fl kd vl) (some e) = (numV e.tm, 0) := rfl
theorem endR_n {x : Ex} : endR x none = (zeroVl, 10) := rfl
theorem lastR_t : lastR evs true ev = some ev := rfl
theorem lastR_f : lastR evs false ev = evs.getLast? := rfl
end
set_option maxRecDepth 100000 in
set_option maxHeartbeats 8000000 in
theorem leaf_any (vs : List (List Evt)) (v : Value) (own : Int) (ev : Evt) (u : Value) (m : Nat) (x : Ex) (Ax : Option Addr) (nx cx : Nat) (w : World) (hv : IsVars w v vs) (hu : IsVls w u ev.vals)
    (hop : 0 ≤ x.op ∧ x.op ≤ 4) (hf : x.op = 1 ∨ x.op = 4 → 0 ≤ x.fl) (hsm : (evsAt vs x.vr).length ≤ 1048576) :
    Calls Tryz.prog 152 #[evaV v own ev u m, exV x (.slice Ax nx cx)] w fun e w' =>
      e = .returned (.tuple #[vlV (leafR vs own ev x).1, .int .i64 (leafR vs own ev x).2]) ∧ Below w.heap.size w w' := by
  have HV := Lib.hid hv
  have HU := Lib.hid hu
  obtain ⟨A, c, rfl, -⟩ := hv
  obtain ⟨Au, cu, rfl, -⟩ := hu
  have HEV := Lib.hid (fun W (hW : Below w.heap.size w W) => evsof_any vs _ own ev Au ev.vals.length cu m x.vr W (HV.out.stays varAt_stays hW))
  have HTO := Lib.hid (fun W (hW : Below w.heap.size w W) (hf : 0 ≤ x.fl) => total_any vs _ own ev Au ev.vals.length cu m x Ax nx cx W (HV.out.stays varAt_stays hW) hf hsm)
  obtain ⟨evs, hevs⟩ : ∃ e, evsAt vs x.vr = e := ⟨_, rfl⟩
  rw [hevs] at HEV HTO
  obtain ⟨⟨RV, re⟩, hR⟩ : ∃ r, leafR vs own ev x = r := ⟨_, rfl⟩
  rw [hR]
  have HR := Lib.hid hR
  have HEQ := Lib.hid hevs
  clear hevs hR hsm
  obtain ⟨op, l, vr, fl, kd, vl⟩ := x
  unfold evaV exV at *
  simp only [Ex.op, Ex.vr, Ex.fl, Ex.kd, Ex.val] at *
  unfold vlV at *
  go_enter Tryz.func152, Tryz.ntmps152
  go_wp2_with fail
  refine calls_gen fun W9 e9 => ?_
  have hE : W9.heap[w.heap.size]? = some (.cells [.slice A vs.length c, .int .i64 own, .int .i64 ev.src, .int .i64 ev.sq, .int .i64 ev.ty, .int .i64 ev.tm, .slice Au ev.vals.length cu, .map (some m)].toArray 186 (0, 0)) := by
    rw [e9]; repeat (first | exact heap_new' _ _ _ (by simp) | apply heap_old)
  have hX : W9.heap[w.heap.size + 1]? = some (.cells [.int .i64 op, .slice Ax nx cx, .int .i64 vr, .int .i64 fl, .int .i64 kd, .int .i64 vl.kind, .int .i64 vl.num, .string vl.text].toArray 90 (0, 0)) := by
    rw [e9]; repeat (first | exact heap_new' _ _ _ (by simp) | apply heap_old)
  have hB : VBox W9 (w.heap.size + 1 + 1) := ⟨.int .i64 0, .int .i64 0, .string ⟨#[]⟩, by rw [e9]; repeat (first | exact heap_new' _ _ _ (by simp) | apply heap_old)⟩
  have hb9 : Below w.heap.size w W9 := by rw [e9]; exact (by repeat (first | exact Below.refl _ _ | assumption | refine Below.drew ?_ | refine bel_al ?_ _ | refine bel_set ?_ (by omega) _ | refine bel_tr ?_ (by assumption)))
  clear e9
  refine (HEV.out _ hb9).mono ?_
  rintro e w1 ⟨A1, c1, rfl, hl, hb1⟩
  obtain ⟨q0, q1, q2, q3, q4, q5, q6, q7⟩ := blk8 (heap_stays hb1 hX)
  obtain ⟨r0, r1, r2, r3, r4, r5, r6, r7⟩ := blk8 (heap_stays hb1 hE)
  have HB := Lib.hid (hB.stays hb1)
  have HW1 := Lib.hid (bel_tr hb9 hb1)
  have HL := Lib.hid hl
  have hn63 : (evs.length : Int) ≤ 9223372036854775807 := by obtain ⟨A', c', e, h1, h2, h3⟩ := hl; exact len_i64 h1 h2
  have hXl := HB.out.lt
  obtain ⟨X, hXe⟩ : ∃ X, X = w.heap.size + 1 := ⟨_, rfl⟩
  obtain ⟨E, hEe⟩ : ∃ E, E = w.heap.size := ⟨_, rfl⟩
  have hX2 : X + 1 < w1.heap.size := by omega
  have hX0 : X < w1.heap.size := by omega
  have hE0 : E < w1.heap.size := by omega
  have hX3 : w.heap.size ≤ X := by omega
  rw [← hXe] at q0 q1 q2 q3 q4 q5 q6 q7 HB ⊢
  rw [← hEe] at r0 r1 r2 r3 r4 r5 r6 r7 ⊢
  have HUw := Lib.hid (HU.out.stays vlAt_stays HW1.out)
  clear hX hE hB hb9 hb1 hl hXl hXe hEe HEV
  have hcase : op = 0 ∨ op = 3 ∨ op = 4 ∨ op = 1 ∨ op = 2 := by omega
  rcases hcase with rfl | rfl | rfl | rfl | rfl
  · obtain ⟨e1, e2⟩ : vl = RV ∧ 0 = re := by have h := HR.out; rw [leafR_0] at h; injection h with e1 e2; exact ⟨e1, e2⟩
    subst e1 e2
    obtain ⟨a0, b0, c0, z0, z1, z2, f0, f1, f2⟩ := HB.out.facts
    go_wp2_with fail
    exact bodyPost_ret (v := .tuple #[.agg #[.int .i64 vl.kind, .int .i64 vl.num, .string vl.text], .int .i64 0]) (by simp [results, Tryz.results152, go_sem, cell_set_self, z0, z1, z2]) rfl ⟨rfl, bel_3 HW1.out (by omega) _ _ _⟩
  · obtain ⟨e1, e2⟩ : numV evs.length = RV ∧ 0 = re := by have h := HR.out; rw [leafR_3, HEQ.out] at h; injection h with e1 e2; exact ⟨e1, e2⟩
    subst e1 e2
    obtain ⟨a0, b0, c0, z0, z1, z2, f0, f1, f2⟩ := HB.out.facts
    go_wp2_with fail
    exact bodyPost_ret (v := .tuple #[.agg #[.int .i64 0, .int .i64 evs.length, .string ⟨#[]⟩], .int .i64 0]) (by simp [results, Tryz.results152, go_sem, cell_set_self, z0, z1, z2]) rfl ⟨rfl, bel_3 HW1.out (by omega) _ _ _⟩
  · have h4 := HR.out
    rw [leafR_4, HEQ.out] at h4
    rw [h4] at HTO
    clear h4
    go_wp2_with fail
    refine (HTO.out _ HW1.out (hf (by simp))).mono ?_
    rintro e w2 ⟨rfl, hb2⟩
    obtain ⟨a0, b0, c0, z0, z1, z2, f0, f1, f2⟩ := (HB.out.stays hb2).facts
    go_wp2_with fail
    exact bodyPost_ret (v := .tuple #[.agg #[.int .i64 RV.kind, .int .i64 RV.num, .string RV.text], .int .i64 re]) (by simp [results, Tryz.results152, go_sem, cell_set_self, z0, z1, z2]) rfl ⟨rfl, bel_3 (bel_tr HW1.out hb2) (by omega) _ _ _⟩
  · clear HTO
    by_cases hown : vr = own
    · have hne : (vr != own) = false := by simpa using hown
      obtain ⟨⟨fv, fe⟩, hfr⟩ : ∃ r, fieldR ev.vals fl = r := ⟨_, rfl⟩
      have HF := Lib.hid (fun W (hW : Below w1.heap.size w1 W) => field_any ev _ fl W (HUw.out.stays vlAt_stays hW) (hf (by simp)))
      rw [hfr] at HF
      unfold evtV vlV at HF
      have HFE := Lib.hid hfr
      clear hfr
      go_wp2_with fail
      refine (HF.out _ ?_).mono ?_
      · exact (by repeat (first | exact Below.refl _ _ | assumption | refine Below.drew ?_ | refine bel_al ?_ _ | refine bel_set ?_ (by omega) _ | refine bel_tr ?_ (by assumption)))
      rintro e w2 ⟨rfl, hb2⟩
      have HB2 : Hid (Below w1.heap.size w1 w2) := Lib.hid (bel_tr (by exact (by repeat (first | exact Below.refl _ _ | assumption | refine Below.drew ?_ | refine bel_al ?_ _ | refine bel_set ?_ (by omega) _ | refine bel_tr ?_ (by assumption)))) hb2)
      clear hb2
      have hs2 := HB2.out.size
      have hxl2 : X + 1 < w2.heap.size := by omega
      obtain ⟨a0, b0, c0, z0, z1, z2, f0, f1, f2⟩ := (HB.out.stays HB2.out).facts
      have h := HR.out
      rw [leafR_1, HEQ.out, decide_eq_true hown, lastR_t, endR_1, HFE.out] at h
      by_cases hz : fe = 0
      case neg =>
        rw [if_pos hz] at h
        have h6 : fe = 6 := by
          have h := HFE.out
          unfold fieldR at h
          split at h
          · injection h with _ h; exact h.symm
          · injection h with _ h; exact absurd h.symm hz
        subst h6
        injection h with e1 e2
        subst e1 e2
        clear hz
        go_wp2_with fail
        exact bodyPost_ret (v := .tuple #[.agg #[.int .i64 0, .int .i64 0, .string ⟨#[]⟩], .int .i64 6]) (by simp [results, Tryz.results152, go_sem, cell_set_self, z0, z1, z2, hxl2]) rfl ⟨rfl, bel_al (bel_3 (bel_tr HW1.out HB2.out) (by omega) _ _ _) _⟩
      subst hz
      rw [if_neg (by simp)] at h
      obtain ⟨ce, hce⟩ : ∃ c, valE fv = c := ⟨_, rfl⟩
      have HCK := Lib.hid (fun W => vcheck_any fv W)
      simp only [hce] at HCK h
      unfold vlV at HCK
      have HH := Lib.hid h
      clear h hce
      go_wp2_with fail
      refine (HCK.out _).mono ?_
      rintro e w3 ⟨rfl, hb3⟩
      have hnew := (new_cells hb3).1
      have y0 : w3.cell? ⟨w2.heap.size, 0, none⟩ = some (.int .i64 fv.kind) := by rw [hnew]; rfl
      have y1 : w3.cell? ⟨w2.heap.size, 1, none⟩ = some (.int .i64 fv.num) := by rw [hnew]; rfl
      have y2 : w3.cell? ⟨w2.heap.size, 2, none⟩ = some (.string fv.text) := by rw [hnew]; rfl
      have HB3 : Hid (Below w1.heap.size w1 w3) := Lib.hid (bel_tr HB2.out (bel_tr (bel_one w2 _) hb3))
      have hs3 := HB3.out.size
      have hxl3 : X + 1 < w3.heap.size := by omega
      clear hnew hb3 z0 z1 z2 f0 f1 f2 a0 b0 c0
      obtain ⟨a0, b0, c0, z0, z1, z2, f0, f1, f2⟩ := (HB.out.stays HB3.out).facts
      have h := HH.out
      by_cases hc : ce = 0
      case neg =>
        rw [if_pos hc] at h
        injection h with e1 e2
        subst e1 e2
        have hc' : (ce != 0) = true := by simpa using hc
        go_wp2_with fail
        exact bodyPost_ret (v := .tuple #[.agg #[.int .i64 0, .int .i64 0, .string ⟨#[]⟩], .int .i64 ce]) (by simp [results, Tryz.results152, go_sem, cell_set_self, z0, z1, z2]) rfl ⟨rfl, bel_3 (bel_tr HW1.out HB3.out) (by omega) _ _ _⟩
      subst hc
      rw [if_neg (by simp)] at h
      injection h with e1 e2
      subst e1 e2
      go_wp2_with fail
      exact bodyPost_ret (v := .tuple #[.agg #[.int .i64 fv.kind, .int .i64 fv.num, .string fv.text], .int .i64 0]) (by simp [results, Tryz.results152, go_sem, cell_set_self, z0, z1, z2]) rfl ⟨rfl, bel_3 (bel_tr HW1.out HB3.out) (by omega) _ _ _⟩
    have hne : (vr != own) = true := by simpa using hown
    by_cases hz : evs.length = 0
    · have hz' : ((evs.length : Int) == 0) = true := by simp [hz]
      obtain ⟨e1, e2⟩ : zeroVl = RV ∧ 10 = re := by have h := HR.out; rw [leafR_1, HEQ.out, decide_eq_false hown, lastR_f, List.eq_nil_of_length_eq_zero hz, List.getLast?_nil, endR_n] at h; injection h with e1 e2; exact ⟨e1, e2⟩
      subst e1 e2
      clear hz hown
      obtain ⟨a0, b0, c0, z0, z1, z2, f0, f1, f2⟩ := HB.out.facts
      go_wp2_with fail
      exact bodyPost_ret (v := .tuple #[.agg #[.int .i64 0, .int .i64 0, .string ⟨#[]⟩], .int .i64 10]) (by simp [results, Tryz.results152, go_sem, cell_set_self, z0, z1, z2, hX2]) rfl ⟨rfl, bel_al (bel_3 HW1.out (by omega) _ _ _) _⟩
    have hz' : ((evs.length : Int) == 0) = false := by simp [hz]
    have hw : wrap64 ((evs.length : Int) - 1) = ((evs.length - 1 : Nat) : Int) := by unfold wrap64; omega
    have hnl : ((evs.length - 1 : Nat) : Int) < (evs.length : Int) := by omega
    have hg : evs[evs.length - 1]? = some (evs[evs.length - 1]'(by omega)) := List.getElem?_eq_getElem _
    have hlast : evs.getLast? = some (evs[evs.length - 1]'(by omega)) := by rw [List.getLast?_eq_getElem?]; exact hg
    obtain ⟨la, hla⟩ : ∃ a, a = evs[evs.length - 1]'(by omega) := ⟨_, rfl⟩
    rw [← hla] at hg hlast
    obtain ⟨b, o, A', c', rfl, hbl, hvl, p0, p1, p2, p3, p4⟩ := evs_last HL.out hg
    have HVL := Lib.hid hvl
    have HLA := Lib.hid hlast
    clear hla hz hvl hg hlast
    obtain ⟨⟨fv, fe⟩, hfr⟩ : ∃ r, fieldR la.vals fl = r := ⟨_, rfl⟩
    have HF := Lib.hid (fun W (hW : Below w1.heap.size w1 W) => field_any la _ fl W (HVL.out.stays vlAt_stays hW) (hf (by simp)))
    rw [hfr] at HF
    unfold evtV vlV at HF
    have HFE := Lib.hid hfr
    clear hfr
    go_wp2_with fail
    refine (HF.out _ ?_).mono ?_
    · exact (by repeat (first | exact Below.refl _ _ | assumption | refine Below.drew ?_ | refine bel_al ?_ _ | refine bel_set ?_ (by omega) _ | refine bel_tr ?_ (by assumption)))
    rintro e w2 ⟨rfl, hb2⟩
    have HB2 : Hid (Below w1.heap.size w1 w2) := Lib.hid (bel_tr (by exact (by repeat (first | exact Below.refl _ _ | assumption | refine Below.drew ?_ | refine bel_al ?_ _ | refine bel_set ?_ (by omega) _ | refine bel_tr ?_ (by assumption)))) hb2)
    clear hb2
    have hs2 := HB2.out.size
    have hxl2 : X + 1 < w2.heap.size := by omega
    obtain ⟨a0, b0, c0, z0, z1, z2, f0, f1, f2⟩ := (HB.out.stays HB2.out).facts
    have h := HR.out
    rw [leafR_1, HEQ.out, decide_eq_false hown, lastR_f, HLA.out, endR_1, HFE.out] at h
    by_cases hz : fe = 0
    case neg =>
      rw [if_pos hz] at h
      have h6 : fe = 6 := by
        have h := HFE.out
        unfold fieldR at h
        split at h
        · injection h with _ h; exact h.symm
        · injection h with _ h; exact absurd h.symm hz
      subst h6
      injection h with e1 e2
      subst e1 e2
      clear hz
      go_wp2_with fail
      exact bodyPost_ret (v := .tuple #[.agg #[.int .i64 0, .int .i64 0, .string ⟨#[]⟩], .int .i64 6]) (by simp [results, Tryz.results152, go_sem, cell_set_self, z0, z1, z2, hxl2]) rfl ⟨rfl, bel_al (bel_3 (bel_tr HW1.out HB2.out) (by omega) _ _ _) _⟩
    subst hz
    rw [if_neg (by simp)] at h
    obtain ⟨ce, hce⟩ : ∃ c, valE fv = c := ⟨_, rfl⟩
    have HCK := Lib.hid (fun W => vcheck_any fv W)
    simp only [hce] at HCK h
    unfold vlV at HCK
    have HH := Lib.hid h
    clear h hce
    go_wp2_with fail
    refine (HCK.out _).mono ?_
    rintro e w3 ⟨rfl, hb3⟩
    have hnew := (new_cells hb3).1
    have y0 : w3.cell? ⟨w2.heap.size, 0, none⟩ = some (.int .i64 fv.kind) := by rw [hnew]; rfl
    have y1 : w3.cell? ⟨w2.heap.size, 1, none⟩ = some (.int .i64 fv.num) := by rw [hnew]; rfl
    have y2 : w3.cell? ⟨w2.heap.size, 2, none⟩ = some (.string fv.text) := by rw [hnew]; rfl
    have HB3 : Hid (Below w1.heap.size w1 w3) := Lib.hid (bel_tr HB2.out (bel_tr (bel_one w2 _) hb3))
    have hs3 := HB3.out.size
    have hxl3 : X + 1 < w3.heap.size := by omega
    clear hnew hb3 z0 z1 z2 f0 f1 f2 a0 b0 c0
    obtain ⟨a0, b0, c0, z0, z1, z2, f0, f1, f2⟩ := (HB.out.stays HB3.out).facts
    have h := HH.out
    by_cases hc : ce = 0
    case neg =>
      rw [if_pos hc] at h
      injection h with e1 e2
      subst e1 e2
      have hc' : (ce != 0) = true := by simpa using hc
      go_wp2_with fail
      exact bodyPost_ret (v := .tuple #[.agg #[.int .i64 0, .int .i64 0, .string ⟨#[]⟩], .int .i64 ce]) (by simp [results, Tryz.results152, go_sem, cell_set_self, z0, z1, z2]) rfl ⟨rfl, bel_3 (bel_tr HW1.out HB3.out) (by omega) _ _ _⟩
    subst hc
    rw [if_neg (by simp)] at h
    injection h with e1 e2
    subst e1 e2
    go_wp2_with fail
    exact bodyPost_ret (v := .tuple #[.agg #[.int .i64 fv.kind, .int .i64 fv.num, .string fv.text], .int .i64 0]) (by simp [results, Tryz.results152, go_sem, cell_set_self, z0, z1, z2]) rfl ⟨rfl, bel_3 (bel_tr HW1.out HB3.out) (by omega) _ _ _⟩
  · clear HTO
    by_cases hown : vr = own
    · have hne : (vr != own) = false := by simpa using hown
      obtain ⟨e1, e2⟩ : numV ev.tm = RV ∧ 0 = re := by have h := HR.out; rw [leafR_2, HEQ.out, decide_eq_true hown, lastR_t, endR_2] at h; injection h with e1 e2; exact ⟨e1, e2⟩
      subst e1 e2
      clear hown
      obtain ⟨a0, b0, c0, z0, z1, z2, f0, f1, f2⟩ := HB.out.facts
      go_wp2_with fail
      exact bodyPost_ret (v := .tuple #[.agg #[.int .i64 0, .int .i64 ev.tm, .string ⟨#[]⟩], .int .i64 0]) (by simp [results, Tryz.results152, go_sem, cell_set_self, z0, z1, z2, hX2]) rfl ⟨rfl, bel_al (bel_3 HW1.out (by omega) _ _ _) _⟩
    have hne : (vr != own) = true := by simpa using hown
    by_cases hz : evs.length = 0
    · have hz' : ((evs.length : Int) == 0) = true := by simp [hz]
      obtain ⟨e1, e2⟩ : zeroVl = RV ∧ 10 = re := by have h := HR.out; rw [leafR_2, HEQ.out, decide_eq_false hown, lastR_f, List.eq_nil_of_length_eq_zero hz, List.getLast?_nil, endR_n] at h; injection h with e1 e2; exact ⟨e1, e2⟩
      subst e1 e2
      clear hz hown
      obtain ⟨a0, b0, c0, z0, z1, z2, f0, f1, f2⟩ := HB.out.facts
      go_wp2_with fail
      exact bodyPost_ret (v := .tuple #[.agg #[.int .i64 0, .int .i64 0, .string ⟨#[]⟩], .int .i64 10]) (by simp [results, Tryz.results152, go_sem, cell_set_self, z0, z1, z2, hX2]) rfl ⟨rfl, bel_al (bel_3 HW1.out (by omega) _ _ _) _⟩
    have hz' : ((evs.length : Int) == 0) = false := by simp [hz]
    have hw : wrap64 ((evs.length : Int) - 1) = ((evs.length - 1 : Nat) : Int) := by unfold wrap64; omega
    have hnl : ((evs.length - 1 : Nat) : Int) < (evs.length : Int) := by omega
    have hg : evs[evs.length - 1]? = some (evs[evs.length - 1]'(by omega)) := List.getElem?_eq_getElem _
    have hlast : evs.getLast? = some (evs[evs.length - 1]'(by omega)) := by rw [List.getLast?_eq_getElem?]; exact hg
    obtain ⟨la, hla⟩ : ∃ a, a = evs[evs.length - 1]'(by omega) := ⟨_, rfl⟩
    rw [← hla] at hg hlast
    obtain ⟨b, o, A', c', rfl, hbl, hvl, p0, p1, p2, p3, p4⟩ := evs_last HL.out hg
    have HVL := Lib.hid hvl
    have HLA := Lib.hid hlast
    clear hla hz hvl hg hlast
    obtain ⟨e1, e2⟩ : numV la.tm = RV ∧ 0 = re := by have h := HR.out; rw [leafR_2, HEQ.out, decide_eq_false hown, lastR_f, HLA.out, endR_2] at h; injection h with e1 e2; exact ⟨e1, e2⟩
    subst e1 e2
    obtain ⟨a0, b0, c0, z0, z1, z2, f0, f1, f2⟩ := HB.out.facts
    go_wp2_with fail
    exact bodyPost_ret (v := .tuple #[.agg #[.int .i64 0, .int .i64 la.tm, .string ⟨#[]⟩], .int .i64 0]) (by simp [results, Tryz.results152, go_sem, cell_set_self, z0, z1, z2, hX2]) rfl ⟨rfl, bel_al (bel_3 HW1.out (by omega) _ _ _) _⟩
end Go.Proofs.YtclpglgigpjfoaaGreatDoor
namespace Go.Proofs.YtclpglgigpjfoaaGreatDoor
open Go.RowKit

theorem vl_eq2 (a b : Vl) (W : World) : (binOp .eql 88 (vlV a) (vlV b)).run Tryz.prog W = .ok (.bool (vlEq a b)) W := by
  have u3 := Tryz.underlying3
  have a3 := Tryz.isAgg3
  have z3 := Tryz.sizeOf3
  have u9 : Tryz.prog.underlying 9 = some .string := by kernel_rfl
  have a9 := Tryz.isAgg9
  have z9 := Tryz.sizeOf9
  have hS : Tryz.prog.underlying 88 = some (.struct (Tryz.prog.fieldsOf 88)) := by kernel_rfl
  have hp : Tryz.prog.stoodInHeld 88 = false := by kernel_rfl
  unfold vlV
  rw [run_eql_struct, show (10000 : Nat) = 9999 + 1 from rfl, run_equalIn_agg W 9999 88 _ _ hS hp]
  simp only [Program.fieldsOf, Tryz.underlying88]
  go_simp
  by_cases h1 : a.kind = b.kind <;> by_cases h2 : a.num = b.num <;> by_cases h3 : a.text.toList = b.text.toList <;> simp [vlEq, h1, h2, h3]
theorem cell_grown {w w' : World} {row : Option Nat} {b i : Nat} {v : Value} (hg : w.grownBy w' row) (h : w.cell? ⟨b, i, none⟩ = some v) (hne : row ≠ some b) : w'.cell? ⟨b, i, none⟩ = some v :=
  (World.cell?_of_block (a := ⟨b, i, none⟩) (hg.block b (World.block_lt_of_cell? w ⟨b, i, none⟩ h) (fun e => hne e.symm))).trans h
theorem src_grown {w w' : World} {row : Option Nat} {q n sz : Nat} {cs : List Value} (hg : w.grownBy w' row) (h : Src w (some ⟨q, 0, none⟩) n sz cs) (hne : row ≠ some q) : Src w' (some ⟨q, 0, none⟩) n sz cs :=
  ⟨h.1, h.2.1, fun hn => by
    obtain ⟨b, o, hA, hc⟩ := h.2.2 hn
    injection hA with hA
    injection hA with e1 e2
    subst e1 e2
    exact ⟨q, 0, rfl, fun j u hj => cell_grown hg (hc j u hj) hne⟩⟩
theorem al_src {K : World → Prop} {w : World} {cs : List Value} {t n sz : Nat} (hl : cs.length = n * sz) (h1 : ∀ u ∈ cs, u.oneCell' = true) (h : ∀ W : World, Below w.heap.size w W → Src W (some ⟨w.heap.size, 0, none⟩) n sz cs → K W) : K (w.alloc (.cells cs.toArray t)) :=
  h _ (bel_al (Below.refl _ _) _) (src_new' _ cs t n sz _ rfl hl h1)
theorem at_look {K : Act → World → Prop} {Q : Exit → Act → World → Prop} {o : Oper} {a : Act} (w : World) (m x : Operand) (hop : o.op = Op.lookup 183 m x false) (b : Nat) (k : Int) (i : Nat) (u : Value) (es : Array MapEntry) (clock : Nat)
    (hm : a.eval m = .map (some b)) (hx : a.eval x = .int .i64 k) (hb : w.heap[b]? = some (.map es clock)) (hf : Instr.findNow (.int .i64) (.int .i64 k) es.toList 0 = some (some (i, u)))
    (hK : K (a.put o.dst u) w) : Oper.wp Tryz.prog o a w K Q := by
  have hc : ∀ e, (Instr.checkKey e 10000 3 (.int .i64 k)).run Tryz.prog w = .ok () w := fun e => MapKept.run_checkKey (k := .int .i64 k) Tryz.underlying3 (by simp [MapKept.IsKey]) e 9999
  have hrun : (Instr.lookup 183 (.map (some b)) (.int .i64 k) false).run Tryz.prog w = .ok u w := by
    simp [Instr.lookup, run_underlying opsT, MapKept.run_getObj_map hb, hc, MapKept.run_findKey Tryz.underlying3 hf, Result.andThen]
  unfold Oper.wp
  simp [execOp, hop, hm, hx, hrun, Result.andThen]
  exact hK
/-- two rows of the call's own: values, and their kinds -/
def TW (B : Nat) (v6 v7 : Value) (k n : Nat) (pre : List Vl) (ks : List Int) (W : World) : Prop :=
  W.ownsRow B 88 3 v6 k (vlCells pre) ∧ W.ownsRow B 3 1 v7 n (inCells ks) ∧ ∀ g, v6.ownBlock = some g → v7.ownBlock ≠ some g
theorem TW.below {B k n : Nat} {v6 v7 : Value} {pre : List Vl} {ks : List Int} {W W' : World} (h : TW B v6 v7 k n pre ks W) (hb : Below W.heap.size W W') : TW B v6 v7 k n pre ks W' :=
  ⟨ownsRow_below h.1 hb, ownsRow_below h.2.1 hb, h.2.2⟩
theorem TW.app6 {B k n : Nat} {v6 v7 v8 : Value} {pre : List Vl} {ks : List Int} {x : Vl} {W W' : World} (h : TW B v6 v7 k n pre ks W)
    (ho : W'.ownsRow B 88 3 v8 (k + 1) (vlCells pre ++ [.int .i64 x.kind, .int .i64 x.num, .string x.text])) (hg : W.grownBy W' v6.ownBlock) (hl : v8.ownBlock = v6.ownBlock ∨ v8.ownBlock = some W.heap.size) : TW B v8 v7 (k + 1) n (pre ++ [x]) ks W' := by
  refine ⟨by rw [vlCells_snoc]; exact ho, ownsRow_kept h.2.1 fun g hg7 => hg.block g (ownsRow_lt h.2.1 hg7).2 (fun e => h.2.2 g e.symm hg7), fun g h8 h7 => ?_⟩
  rcases hl with e | e
  · rw [e] at h8; exact h.2.2 g h8 h7
  · rw [e] at h8; injection h8 with h8; have := (ownsRow_lt h.2.1 h7).2; omega
theorem TW.app7 {B k n : Nat} {v6 v7 v8 : Value} {pre : List Vl} {ks : List Int} {x : Int} {W W' : World} (h : TW B v6 v7 k n pre ks W)
    (ho : W'.ownsRow B 3 1 v8 (n + 1) (inCells ks ++ [.int .i64 x])) (hg : W.grownBy W' v7.ownBlock) (hl : v8.ownBlock = v7.ownBlock ∨ v8.ownBlock = some W.heap.size) : TW B v6 v8 k (n + 1) pre (ks ++ [x]) W' := by
  refine ⟨ownsRow_kept h.1 fun g hg6 => hg.block g (ownsRow_lt h.1 hg6).2 (fun e => h.2.2 g hg6 e.symm), by rw [inCells_snoc]; exact ho, fun g h6 h8 => ?_⟩
  rcases hl with e | e
  · rw [e] at h8; exact h.2.2 g h6 h8
  · rw [e] at h8; injection h8 with h8; have := (ownsRow_lt h.1 h6).2; omega
theorem VBox.set3 {W : World} {B : Nat} (h : VBox W B) (x y z : Value) : VBox (((W.setCell ⟨B, 0, none⟩ x).setCell ⟨B, 1, none⟩ y).setCell ⟨B, 2, none⟩ z) B := by
  obtain ⟨a, b, c, h⟩ := h
  exact ⟨x, y, z, three_set h x y z⟩
theorem grown_set3 {w W : World} {B : Nat} (h : w.grownBy W (some B)) (x y z : Value) : w.grownBy (((W.setCell ⟨B, 0, none⟩ x).setCell ⟨B, 1, none⟩ y).setCell ⟨B, 2, none⟩ z) (some B) := by
  have s : ∀ (W : World) (i : Nat) (v : Value), w.grownBy W (some B) → w.grownBy (W.setCell ⟨B, i, none⟩ v) (some B) := fun W i v h =>
    ⟨h.os, h.tape, h.output, by simpa [World.setCell] using h.size, fun k hk hne => (Below.heap_setCell W ⟨B, i, none⟩ v k (fun e => hne (by rw [e]))).trans (h.block k hk hne)⟩
  exact s _ _ _ (s _ _ _ (s _ _ _ h))
/-- a node without an error of its own -/
theorem node_ok {x : Ex} (h : nodeE x = 0) : 0 ≤ x.op ∧ x.op ≤ 12 ∧ (x.args.length : Int) = arN x.op ∧ (x.op = 1 ∨ x.op = 4 → 0 ≤ x.fl) := by
  unfold nodeE at h
  have h1 : ¬ arN x.op < 0 := fun e => by rw [if_pos e] at h; exact absurd h (by decide)
  rw [if_neg h1] at h
  have h2 : ¬ (x.args.length : Int) ≠ arN x.op := fun e => by rw [if_pos e] at h; exact absurd h (by decide)
  rw [if_neg h2] at h
  have h3 : 0 ≤ x.op ∧ x.op ≤ 12 := by
    unfold arN at h1
    split at h1
    · omega
    · omega
  refine ⟨h3.1, h3.2, Decidable.not_not.1 h2, fun e => ?_⟩
  by_cases h4 : x.fl < 0
  · have : (useP x.op).2 = true := by unfold useP; rw [if_pos e]
    rw [if_pos (.inr ⟨this, .inl h4⟩)] at h
    exact absurd h (by decide)
  · omega
theorem evalR_mk (vs : List (List Evt)) (own : Int) (ev : Evt) (o : Int) (l : List Ex) (a b c : Int) (v : Vl) : evalR vs own ev (.mk o l a b c v) = if l.length = 0 then leafR vs own ev (.mk o l a b c v) else nodeR o (evalL vs own ev l) := by rw [evalR]
theorem nodeR_pre (op : Int) (pre : List Vl) : nodeR op (pre, 0) = if opE op (pre.map (·.kind)) ≠ 0 then (zeroVl, opE op (pre.map (·.kind))) else (applyR op (pre.headD zeroVl) (pre.getLastD zeroVl), 0) := rfl
theorem arN_leaf {op : Int} (h0 : 0 ≤ op) (h1 : op ≤ 12) (h : arN op = 0) : op ≤ 4 := by
  unfold arN at h
  split at h
  · omega
  · split at h
    · omega
    · split at h <;> omega
theorem arN_node {op : Int} (h0 : 0 ≤ op) (h1 : op ≤ 12) (h : arN op ≠ 0) : 5 ≤ op ∧ arN op = if op = 12 then 1 else 2 := by
  unfold arN at h ⊢
  split at h
  · omega
  · split at h
    · omega
    · next h2 h3 => rw [if_neg h2, if_neg h3]; exact ⟨by omega, rfl⟩
end Go.Proofs.YtclpglgigpjfoaaGreatDoor
