/- awake of the law: its examples hold. -/
import Derived.Test.YtclpglgigpjfoaaGreatDoorQMexam
import Derived.Test.YtclpglgigpjfoaaGreatDoorQMformat
import Derived.Test.YtclpglgigpjfoaaGreatDoorQMenv
import Derived.Test.YtclpglgigpjfoaaGreatDoorQMseen
import Derived.Test.YtclpglgigpjfoaaGreatDoorQKsort
import Derived.Test.YtclpglgigpjfoaaGreatDoorQReg
namespace Go.Proofs.YtclpglgigpjfoaaGreatDoor
open Go.RowKit

theorem wp_join {P : Program} {c : Code} {Q : Exit → Act → World → Prop} {a : Act} {w : World} (R : Act → Act → World → Prop) (h : c.wp P (fun e a' w' => e = .normal ∧ R a a' w') a w) (h2 : ∀ a' w', R a a' w' → Q .normal a' w') : c.wp P Q a w :=
  wp_mono h (fun e a' w' ⟨he, hr⟩ => by subst he; exact h2 a' w' hr)
theorem EvCells.stays {W W' : World} {G : Nat} (h : EvCells W G) (hb : Below W.heap.size W W') : EvCells W' G := fun j e he => by
  obtain ⟨h0, h1, h2, h3, h4⟩ := h j e he
  exact ⟨cell_stays hb h0, cell_stays hb h1, cell_stays hb h2, cell_stays hb h3, cell_stays hb h4⟩
theorem al_gen {K : World → Prop} {w : World} {v : Value} {t : TypeId} (h : ∀ w6, Below w.heap.size w w6 → Boxed w6 w.heap.size t v → K w6) : K (w.alloc (.cells #[v] t)) :=
  h _ (bel_al (Below.refl _ _) _) (Boxed.new w t v)
theorem box_bel {w w' : World} {X : Nat} {t : TypeId} {v : Value} (h : Boxed w X t v) (hb : Below w.heap.size w w') : Boxed w' X t v := (hb.block X h.lt).trans h
theorem box_ne {w : World} {X b o : Nat} {t : TypeId} {v u : Value} (h : Boxed w X t v) (hc : w.cell? ⟨b, o + 1, none⟩ = some u) : b ≠ X := by
  rintro rfl
  have h2 : w.heap[b]? = _ := h
  simp [World.cell?, h2] at hc
theorem set_ne {w : World} {X b : Nat} {u : Value} (h : b ≠ X) (hb : b < w.heap.size) : (w.setCell ⟨X, 0, none⟩ u).heap[b]? = w.heap[b]? :=
  (grownBy_setCell' w X u).block b hb (by simpa using h)
theorem evts_box {w : World} {X : Nat} {t : TypeId} {v u u' : Value} {l : List Evt} (h : Boxed w X t v) (hl : IsEvts w u l) (hv : ∀ e ∈ l, e.vals = []) : IsEvts (w.setCell ⟨X, 0, none⟩ u') u l := by
  obtain ⟨A, c, rfl, h1, h2, hat⟩ := hl
  refine ⟨A, c, rfl, h1, h2, fun k x hk => ?_⟩
  obtain ⟨b, o, hA, vv, hvv, c0, c1, c2, c3, c4⟩ := hat k x hk
  have hx := hv x (List.mem_of_getElem? hk)
  have hne := box_ne h c1
  have hlt : b < w.heap.size := World.block_lt_of_cell? w ⟨b, _, none⟩ c1
  have hs := set_ne (u := u') hne hlt
  obtain ⟨A2, c2', rfl, -, hm, -⟩ := hvv
  refine ⟨b, o, hA, _, ?_, (World.cell?_of_block (a := ⟨b, _, none⟩) hs).trans c0, (World.cell?_of_block (a := ⟨b, _, none⟩) hs).trans c1, (World.cell?_of_block (a := ⟨b, _, none⟩) hs).trans c2, (World.cell?_of_block (a := ⟨b, _, none⟩) hs).trans c3, (World.cell?_of_block (a := ⟨b, _, none⟩) hs).trans c4⟩
  rw [hx]
  exact Sl.nil _ _ _ _ _ hm
theorem al_gen2 {K : World → Prop} {w : World} {o : Obj} (h : ∀ w6, Below w.heap.size w w6 → Hid (w6.heap[w.heap.size]? = some o) → K w6) : K (w.alloc o) :=
  h _ (bel_al (Below.refl _ _) _) (Lib.hid (World.alloc_heap_new w o))
theorem hid_bel {w w' : World} {g : Nat} {o : Obj} (h : Hid (w.heap[g]? = some o)) (hb : Below w.heap.size w w') : Hid (w'.heap[g]? = some o) :=
  Lib.hid ((hb.block g (Array.getElem?_eq_some_iff.1 h.out).1).trans h.out)
theorem hid_bnds {w w' : World} {v : Value} {l : List Bnd} (h : Hid (IsBnds w v l)) (hb : Below w.heap.size w w') : Hid (IsBnds w' v l) := Lib.hid (h.out.stays bndAt_stays hb)
theorem hid_cell {w : World} {g : Nat} {a : Array Value} {t : TypeId} (h : Hid (w.heap[g]? = some (.cells a t (0, 0)))) {j : Nat} {u : Value} (hj : a[j]? = some u) : w.cell? ⟨g, j, none⟩ = some u := by
  simp [World.cell?, h.out, hj]
theorem bnds_box {w : World} {X : Nat} {t : TypeId} {v u u' : Value} {l : List Bnd} (h : Boxed w X t v) (hl : IsBnds w u l) : IsBnds (w.setCell ⟨X, 0, none⟩ u') u l := by
  obtain ⟨A, c, rfl, h1, h2, hat⟩ := hl
  refine ⟨A, c, rfl, h1, h2, fun k x hk => ?_⟩
  obtain ⟨b, o, hA, c0, c1, c2, c3⟩ := hat k x hk
  have hne := box_ne h c1
  have hlt : b < w.heap.size := World.block_lt_of_cell? w ⟨b, _, none⟩ c1
  have hs := set_ne (u := u') hne hlt
  exact ⟨b, o, hA, (World.cell?_of_block (a := ⟨b, _, none⟩) hs).trans c0, (World.cell?_of_block (a := ⟨b, _, none⟩) hs).trans c1, (World.cell?_of_block (a := ⟨b, _, none⟩) hs).trans c2, (World.cell?_of_block (a := ⟨b, _, none⟩) hs).trans c3⟩
def BndOut (w : World) (l : List Bnd) (e : Ending) (W : World) : Prop := ∃ A c, e = .returned (.agg #[.slice A l.length c]) ∧ Hid (IsBnds W (.slice A l.length c) l) ∧ Below w.heap.size w W
theorem bind2_any (p q : Int × Nat) (l : List Bnd) (hl : [p, q].map bindB = l) (hp : p.2 < 3) (hq : q.2 < 3) (g : Nat) (W : World) (h0 : W.cell? ⟨g, 0, none⟩ = some (.int .i64 p.1)) (h1 : W.cell? ⟨g, 1, none⟩ = some (.int .i64 (p.2 : Int)))
    (h2 : W.cell? ⟨g, 2, none⟩ = some (.int .i64 q.1)) (h3 : W.cell? ⟨g, 3, none⟩ = some (.int .i64 (q.2 : Int))) :
    Calls Tryz.prog 46 #[.slice (some ⟨g, 0, none⟩) 2 2] W (BndOut W l) := by
  have hm : IsPairs W (.slice (some ⟨g, 0, none⟩) 2 2) [p, q] := ⟨_, 2, rfl, Nat.le_refl _, by decide, fun k x hk => by
    match k, hk with
    | 0, hk => simp at hk; subst hk; exact ⟨g, 0, rfl, h0, h1⟩
    | 1, hk => simp at hk; subst hk; exact ⟨g, 0, rfl, h2, h3⟩
    | k + 2, hk => simp at hk⟩
  have hb := bind_any [p, q] _ W hm (by intro r hr; simp at hr; rcases hr with rfl | rfl; exact hp; exact hq) (by simp)
  rw [hl] at hb
  refine hb.mono ?_
  rintro e W' ⟨v, rfl, hv, hb⟩
  obtain ⟨A, c, rfl, h⟩ := hv
  exact ⟨A, c, rfl, Lib.hid ⟨A, c, rfl, h⟩, hb⟩
theorem bind1_any (p : Int × Nat) (l : List Bnd) (hl : [p].map bindB = l) (hp : p.2 < 3) (g : Nat) (W : World) (h0 : W.cell? ⟨g, 0, none⟩ = some (.int .i64 p.1)) (h1 : W.cell? ⟨g, 1, none⟩ = some (.int .i64 (p.2 : Int))) :
    Calls Tryz.prog 46 #[.slice (some ⟨g, 0, none⟩) 1 1] W (BndOut W l) := by
  have hm : IsPairs W (.slice (some ⟨g, 0, none⟩) 1 1) [p] := ⟨_, 1, rfl, Nat.le_refl _, by decide, fun k x hk => by
    match k, hk with
    | 0, hk => simp at hk; subst hk; exact ⟨g, 0, rfl, h0, h1⟩
    | k + 1, hk => simp at hk⟩
  have hb := bind_any [p] _ W hm (by intro r hr; simp at hr; subst hr; exact hp) (by simp)
  rw [hl] at hb
  refine hb.mono ?_
  rintro e W' ⟨v, rfl, hv, hb⟩
  obtain ⟨A, c, rfl, h⟩ := hv
  exact ⟨A, c, rfl, Lib.hid ⟨A, c, rfl, h⟩, hb⟩
theorem exFmt_any (v : Value) (W : World) (g : Nat) (hm : IsBnds W v exM) (hx : Lx W) (h0 : W.cell? ⟨g, 0, none⟩ = some (.string ⟨#[120]⟩)) (h1 : W.cell? ⟨g, 1, none⟩ = some (.int .i64 0)) (h2 : W.cell? ⟨g, 2, none⟩ = some (.string ⟨#[121]⟩)) (h3 : W.cell? ⟨g, 3, none⟩ = some (.int .i64 0)) :
    Calls Tryz.prog 27 #[.slice (some ⟨g, 0, none⟩) 2 2, .agg #[v]] W fun e W' => e = .returned (.tuple #[.string exText, .int .i64 0]) ∧ Below W.heap.size W W' := by
  have hv : IsNvs W (.slice (some ⟨g, 0, none⟩) 2 2) exNs := ⟨_, 2, rfl, Nat.le_refl _, by decide, fun k x hk => by
    match k, hk with
    | 0, hk => simp [exNs] at hk; subst hk; exact ⟨g, 0, rfl, h0, h1⟩
    | 1, hk => simp [exNs] at hk; subst hk; exact ⟨g, 0, rfl, h2, h3⟩
    | k + 2, hk => simp [exNs] at hk⟩
  have h := format_any exNs exM v _ W hm hv hx (by decide)
  rw [ex_fmt] at h
  exact h
def EnvOut (w : World) (l : List (List Evt)) (e : Ending) (W : World) : Prop := ∃ A c, e = .returned (.tuple #[.agg #[.slice A l.length c], .int .i64 0]) ∧ Hid (IsVars W (.slice A l.length c) l) ∧ Below w.heap.size w W
def exE : List (List Evt) := [[⟨0, 2, 0, 5, []⟩], [⟨0, 1, 0, 3, []⟩]]
theorem exE_box {w : World} {X c : Nat} {t : TypeId} {v u' : Value} {A : Option Addr} (h : Boxed w X t v) (hl : IsVars w (.slice A exE.length c) exE) : IsVars (w.setCell ⟨X, 0, none⟩ u') (.slice A exE.length c) exE := by
  obtain ⟨A', c', hA', h1, h2, hat⟩ := hl
  have h3 : A = A' ∧ c = c' := by simpa using hA'
  obtain ⟨rfl, rfl⟩ := h3
  refine ⟨A, c, rfl, h1, h2, fun k x hk => ?_⟩
  obtain ⟨b, o, hA, v1, hv1, c1⟩ := hat 1 _ rfl
  subst hA
  have hne := box_ne h c1
  have hlt : b < w.heap.size := World.block_lt_of_cell? w ⟨b, _, none⟩ c1
  have hs := set_ne (u := u') hne hlt
  obtain ⟨b', o', hb', vv, hvv, c0⟩ := hat k x hk
  have h4 : b = b' ∧ o = o' := by simpa using hb'
  obtain ⟨rfl, rfl⟩ := h4
  refine ⟨b, o, rfl, vv, evts_box h hvv ?_, (World.cell?_of_block (a := ⟨b, _, none⟩) hs).trans c0⟩
  match k, hk with
  | 0, hk => simp [exE] at hk; subst hk; simp
  | 1, hk => simp [exE] at hk; subst hk; simp
  | k + 2, hk => simp [exE] at hk
theorem exEnv_any (v : Value) (W : World) (G : Nat) (hm : IsBnds W v exM) (hG : EvCells W G) : Calls Tryz.prog 22 #[.slice (some ⟨G, 0, none⟩) 3 3, .int .i64 2, .agg #[v]] W (EnvOut W exE) := by
  have h := env_any evs3 2 exM _ v W hG.is hm (by decide)
  rw [ex_env] at h
  refine h.mono ?_
  rintro e W' ⟨v', rfl, hv, hb⟩
  obtain ⟨A, c, rfl, h⟩ := hv
  exact ⟨A, c, rfl, Lib.hid ⟨A, c, rfl, h⟩, hb⟩
/-- what region 8 leaves: two matches in boxes of their own -/
def R8 (W4 : World) (a a' : Act) (w' : World) : Prop := ∃ (X11 X12 : Nat) (u76 u77 u78 u79 u80 u81 : Value) (A8 A9 : Option Addr) (c8 c9 : Nat), a' = ((((((((a.put (some 76) u76).put (some 77) u77).put (some 78) u78).put (some 79) u79).put (some 80) u80).put (some 81) u81).put (some 11) (.pointer (some ⟨X11, 0, none⟩))).put (some 12) (.pointer (some ⟨X12, 0, none⟩))) ∧ Hid (X11 < w'.heap.size ∧ X12 < w'.heap.size ∧ w'.cell? ⟨X11, 0, none⟩ = some (.slice A8 exA.length c8) ∧ w'.cell? ⟨X12, 0, none⟩ = some (.slice A9 exB.length c9) ∧ IsBnds w' (.slice A8 exA.length c8) exA ∧ IsBnds w' (.slice A9 exB.length c9) exB ∧ Below W4.heap.size W4 w')
/-- what region 4 leaves: the environment in a box of its own -/
def R4 (W4 : World) (a a' : Act) (w' : World) : Prop := ∃ (X7 : Nat) (u33 u34 u35 u36 u37 : Value) (A7 : Option Addr) (c7 : Nat), a' = ((((((((a.put (some 34) u34).put (some 35) u35).put (some 36) u36).put (some 33) u33).put (some 37) u37).put (some 38) (.int .i64 0)).put (some 7) (.pointer (some ⟨X7, 0, none⟩))).put (some 8) (.int .i64 0)) ∧ Hid (W4.heap.size ≤ X7 ∧ X7 < w'.heap.size ∧ w'.cell? ⟨X7, 0, none⟩ = some (.slice A7 exE.length c7) ∧ IsVars w' (.slice A7 exE.length c7) exE ∧ Below W4.heap.size W4 w')
theorem mats4 {W : World} {g : Nat} {A1 A2 A3 : Option Addr} {c1 c2 c3 : Nat} {m b a : List Bnd} (h0 : W.cell? ⟨g, 0, none⟩ = some (.slice A1 m.length c1)) (h1 : W.cell? ⟨g, 1, none⟩ = some (.slice A2 b.length c2)) (h2 : W.cell? ⟨g, 2, none⟩ = some (.slice A3 a.length c3)) (h3 : W.cell? ⟨g, 3, none⟩ = some (.slice A1 m.length c1))
    (hm : IsBnds W (.slice A1 m.length c1) m) (hb : IsBnds W (.slice A2 b.length c2) b) (ha : IsBnds W (.slice A3 a.length c3) a) : IsMats W (.slice (some ⟨g, 0, none⟩) 4 4) [m, b, a, m] :=
  ⟨_, 4, rfl, Nat.le_refl _, by decide, fun k x hk => by
    match k, hk with
    | 0, hk => simp at hk; subst hk; exact ⟨g, 0, rfl, _, hm, h0⟩
    | 1, hk => simp at hk; subst hk; exact ⟨g, 0, rfl, _, hb, h1⟩
    | 2, hk => simp at hk; subst hk; exact ⟨g, 0, rfl, _, ha, h2⟩
    | 3, hk => simp at hk; subst hk; exact ⟨g, 0, rfl, _, hm, h3⟩
    | k + 4, hk => simp at hk⟩
theorem mats3 {W : World} {g : Nat} {A1 A2 A3 : Option Addr} {c1 c2 c3 : Nat} {m b a : List Bnd} (h0 : W.cell? ⟨g, 0, none⟩ = some (.slice A1 m.length c1)) (h1 : W.cell? ⟨g, 1, none⟩ = some (.slice A2 b.length c2)) (h2 : W.cell? ⟨g, 2, none⟩ = some (.slice A3 a.length c3))
    (hm : IsBnds W (.slice A1 m.length c1) m) (hb : IsBnds W (.slice A2 b.length c2) b) (ha : IsBnds W (.slice A3 a.length c3) a) : IsMats W (.slice (some ⟨g, 0, none⟩) 3 3) [m, b, a] :=
  ⟨_, 3, rfl, Nat.le_refl _, by decide, fun k x hk => by
    match k, hk with
    | 0, hk => simp at hk; subst hk; exact ⟨g, 0, rfl, _, hm, h0⟩
    | 1, hk => simp at hk; subst hk; exact ⟨g, 0, rfl, _, hb, h1⟩
    | 2, hk => simp at hk; subst hk; exact ⟨g, 0, rfl, _, ha, h2⟩
    | k + 3, hk => simp at hk⟩
theorem ev_last {W : World} {G : Nat} (h : EvCells W G) (c : Nat) (hc : 1 ≤ c) (hm : c ≤ maxLen) : IsEvts W (.slice (some ⟨G, 10, none⟩) 1 c) [⟨0, 2, 0, 5, []⟩] := ⟨_, c, rfl, hc, hm, fun k x hk => by
  match k, hk with
  | 0, hk =>
    simp at hk; subst hk
    obtain ⟨h0, h1, h2, h3, h4⟩ := h 2 _ rfl
    exact ⟨G, 10, rfl, _, Sl.nil _ _ _ _ _ (Nat.zero_le _), h0, h1, h2, h3, h4⟩
  | k + 1, hk => simp at hk⟩
theorem ev_first {W : World} {G : Nat} (h : EvCells W G) (c : Nat) (hc : 1 ≤ c) (hm : c ≤ maxLen) : IsEvts W (.slice (some ⟨G, 0, none⟩) 1 c) [⟨0, 1, 0, 3, []⟩] := ⟨_, c, rfl, hc, hm, fun k x hk => by
  match k, hk with
  | 0, hk =>
    simp at hk; subst hk
    obtain ⟨h0, h1, h2, h3, h4⟩ := h 0 _ rfl
    exact ⟨G, 0, rfl, _, Sl.nil _ _ _ _ _ (Nat.zero_le _), h0, h1, h2, h3, h4⟩
  | k + 1, hk => simp at hk⟩
theorem exSame_any (v : Value) (W : World) (g : Nat) {A1 A2 A3 : Option Addr} {c1 c2 c3 : Nat} (hv : IsMats W v [exA, exB, exM]) (hb : Hid (W.heap[g]? = some (.cells #[.slice A1 exA.length c1, .slice A2 exB.length c2, .slice A3 exM.length c3] 24 (0, 0))))
    (h1 : IsBnds W (.slice A1 exA.length c1) exA) (h2 : IsBnds W (.slice A2 exB.length c2) exB) (h3 : IsBnds W (.slice A3 exM.length c3) exM) :
    Calls Tryz.prog 20 #[v, .slice (some ⟨g, 0, none⟩) 3 3] W fun e w' => e = .returned (.bool true) ∧ Below W.heap.size W w' := by
  have h := rsameM_any _ _ v _ W hv (mats3 (hid_cell hb (j := 0) rfl) (hid_cell hb (j := 1) rfl) (hid_cell hb (j := 2) rfl) h1 h2 h3)
  simpa using h
theorem exCmp1_any {A1 A2 : Option Addr} {c1 c2 : Nat} (W : World) (h1 : IsBnds W (.slice A1 exA.length c1) exA) (h2 : IsBnds W (.slice A2 exB.length c2) exB) :
    Calls Tryz.prog 16 #[.agg #[.slice A1 exA.length c1], .agg #[.slice A2 exB.length c2]] W fun e w' => e = .returned (.int .i64 (-1)) ∧ Below W.heap.size W w' := by
  have h := mcompare_any exA exB _ _ W h1 h2
  rw [ex_cmp1] at h
  exact h.mono fun e w' ⟨h1, h2⟩ => ⟨h1, h2.below⟩
theorem exCmp2_any {A1 A2 : Option Addr} {c1 c2 : Nat} (W : World) (h1 : IsBnds W (.slice A1 exM.length c1) exM) (h2 : IsBnds W (.slice A2 exB.length c2) exB) :
    Calls Tryz.prog 16 #[.agg #[.slice A1 exM.length c1], .agg #[.slice A2 exB.length c2]] W fun e w' => e = .returned (.int .i64 1) ∧ Below W.heap.size W w' := by
  have h := mcompare_any exM exB _ _ W h1 h2
  rw [ex_cmp2] at h
  exact h.mono fun e w' ⟨h1, h2⟩ => ⟨h1, h2.below⟩
def NonOut (w : World) (e : Ending) (W : World) : Prop := ∃ A c, e = .returned (.tuple #[.agg #[.slice A 0 c], .int .i64 6]) ∧ Below w.heap.size w W
theorem exNone_any (g : Nat) (W : World) (G : Nat) (hG : EvCells W G) (h0 : W.cell? ⟨g, 0, none⟩ = some (.int .i64 0)) (h1 : W.cell? ⟨g, 1, none⟩ = some (.int .i64 4)) (h2 : W.cell? ⟨g, 2, none⟩ = some (.int .i64 0)) (h3 : W.cell? ⟨g, 3, none⟩ = some (.int .i64 0)) :
    Calls Tryz.prog 22 #[.slice (some ⟨G, 0, none⟩) 3 3, .int .i64 1, .agg #[.slice (some ⟨g, 0, none⟩) 1 1]] W (NonOut W) := by
  have hm : IsBnds W (.slice (some ⟨g, 0, none⟩) 1 1) exN := ⟨_, 1, rfl, Nat.le_refl _, by decide, fun k x hk => by
    match k, hk with
    | 0, hk => simp [exN] at hk; subst hk; exact ⟨g, 0, rfl, h0, h1, h2, h3⟩
    | k + 1, hk => simp [exN] at hk⟩
  have h := env_any evs3 1 exN _ _ W hG.is hm (by decide)
  rw [ex_none] at h
  refine h.mono ?_
  rintro e W' ⟨v', rfl, hv, hb⟩
  obtain ⟨A, c, rfl, h⟩ := hv
  exact ⟨A, c, rfl, hb⟩

set_option maxRecDepth 100000 in
set_option maxHeartbeats 8000000 in
theorem awake_any (w : World) (hx : Lx w) : Calls Tryz.prog 11 #[] w fun e W => e = .returned (.bool true) ∧ Below w.heap.size w W := by
  have HX := Lib.hid hx
  clear hx
  go_enter Tryz.func11, Tryz.ntmps11
  go_wp2_with fail
  refine calls_gen fun W0 e0 => ?_
  have hb0 : Below w.heap.size w W0 := by rw [e0]; exact (by repeat (first | exact Below.refl _ _ | assumption | refine Below.drew ?_ | refine bel_al ?_ _ | refine bel_set ?_ (by omega) _ | refine bel_tr ?_ (by assumption)))
  have p0 : W0.cell? ⟨w.heap.size, 0, none⟩ = some (.int .i64 1) := by rw [e0]; go_simp
  have p1 : W0.cell? ⟨w.heap.size, 1, none⟩ = some (.int .i64 0) := by rw [e0]; go_simp
  have p2 : W0.cell? ⟨w.heap.size, 2, none⟩ = some (.int .i64 0) := by rw [e0]; go_simp
  have p3 : W0.cell? ⟨w.heap.size, 3, none⟩ = some (.int .i64 2) := by rw [e0]; go_simp
  clear e0
  refine (bind2_any (1, 0) (0, 2) exM exM_is (by decide) (by decide) w.heap.size W0 p0 p1 p2 p3).mono ?_
  clear p0 p1 p2 p3
  rintro e W1 ⟨A1, c1, rfl, HM1, hb1⟩
  have HB1 := Lib.hid (bel_tr hb0 hb1)
  clear hb0 hb1
  go_wp2_with fail
  refine calls_gen fun W2 e2 => ?_
  have hb2 : Below W1.heap.size W1 W2 := by rw [e2]; exact (by repeat (first | exact Below.refl _ _ | assumption | refine Below.drew ?_ | refine bel_al ?_ _ | refine bel_set ?_ (by omega) _ | refine bel_tr ?_ (by assumption)))
  have m2 : W2.cell? ⟨W1.heap.size, 0, none⟩ = some (.slice A1 exM.length c1) := by rw [e2]; go_simp
  have p0 : W2.cell? ⟨W1.heap.size + 1, 0, none⟩ = some (.string ⟨#[120]⟩) := by rw [e2]; go_simp
  have p1 : W2.cell? ⟨W1.heap.size + 1, 1, none⟩ = some (.int .i64 0) := by rw [e2]; go_simp
  have p2 : W2.cell? ⟨W1.heap.size + 1, 2, none⟩ = some (.string ⟨#[121]⟩) := by rw [e2]; go_simp
  have p3 : W2.cell? ⟨W1.heap.size + 1, 3, none⟩ = some (.int .i64 0) := by rw [e2]; go_simp
  have hs2 : W1.heap.size < W2.heap.size := by rw [e2]; simp; omega
  clear e2
  refine (exFmt_any _ W2 (W1.heap.size + 1) (HM1.out.stays bndAt_stays hb2) (HX.out.stays (bel_tr HB1.out hb2)) p0 p1 p2 p3).mono ?_
  clear p0 p1 p2 p3
  rintro e W3 ⟨rfl, hb3⟩
  replace m2 := cell_stays hb3 m2
  have hs3 : W1.heap.size < W3.heap.size := Nat.lt_of_lt_of_le hs2 hb3.size
  have HM3 : Hid (IsBnds W3 (.slice A1 exM.length c1) exM) := Lib.hid (HM1.out.stays bndAt_stays (bel_tr hb2 hb3))
  have HB3 : Hid (Below w.heap.size w W3) := Lib.hid (bel_tr HB1.out (bel_tr hb2 hb3))
  obtain ⟨X1, hX1⟩ : ∃ X1, X1 = W1.heap.size := ⟨_, rfl⟩
  have hX1w : w.heap.size ≤ X1 := by have := HB1.out.size; omega
  rw [← hX1] at m2 hs3
  rw [← hX1]
  clear hb2 hs2 hb3 HM1 HB1 hX1
  have hsp := span_any exM _ W3 HM3.out
  rw [ex_span] at hsp
  unfold matV spanV at hsp
  have HSP := Lib.hid hsp
  clear hsp
  go_wp2_with (go_at_call 12; refine HSP.out.mono ?_; rintro e W4 ⟨rfl, hb4⟩)
  have m4 := cell_stays hb4 m2
  have HM4 : Hid (IsBnds W4 (.slice A1 exM.length c1) exM) := Lib.hid (HM3.out.stays bndAt_stays hb4)
  have HB4 : Hid (Below w.heap.size w W4) := Lib.hid (bel_tr HB3.out hb4)
  have hs4 : X1 < W4.heap.size := Nat.lt_of_lt_of_le hs3 hb4.size
  clear hb4 m2 HM3 HB3 hs3 HSP
  refine wp_join (R4 W4) ?_ ?_
  · -- REGION4
    refine wp_region_noPanic ?_
    refine wp_region_held_drew (S := fun W => Below W4.heap.size W4 W ∧ W.cell? ⟨X1, 0, none⟩ = some (.slice A1 exM.length c1)) (by kernel_rfl) (⟨(by repeat (first | exact Below.refl _ _ | assumption | refine Below.drew ?_ | refine bel_al ?_ _ | refine bel_set ?_ (by omega) _ | refine bel_tr ?_ (by assumption))), m4⟩) (fun hHeld => ?_)
    generalize W4.drew = wD at hHeld ⊢
    focus (refine wpAnyH_take (i := 1) (v := ?_) rfl (by kernel_rfl) (by kernel_rfl) (by kernel_rfl) (fun _ _ _ h => h) (Or.inl ⟨by rfl, ?_⟩) (by assumption) ?_; rotate_left 1; (focus (intro wS hSw; (try dsimp only at hSw); go_simp <;> with_reducible rfl)); try simp only [Act.put, List.setIfInBounds_toArray])
    refine wpAnyH_ready (rs := [0, 6]) (by kernel_rfl) (by simp) ?_
    refine AllReadyH.cons rfl (fun K hK => ?_) ?_
    focus (go_simp; go_at_call 47; refine (events_any _).mono ?_; rintro e w5 ⟨rfl, hev, hb5⟩; have HEV := Lib.hid hev; clear hev; (try (have y6b := box_bel y6.out hb5; clear y6; have y6 := Lib.hid y6b; clear y6b)))
    refine hK.out _ _ (⟨bel_tr hHeld.1 hb5, cell_stays hb5 hHeld.2⟩) (fun hHeld => ?_)
    clear hK K
    try simp only [Act.put, List.setIfInBounds_toArray, List.set_cons_zero, List.set_cons_succ]
    refine wpAnyH_ready (rs := [2, 6]) (by kernel_rfl) (by simp) ?_
    refine AllReadyH.cons rfl (fun K hK => ?_) ?_
    focus (go_simp; go_at_call 22; refine (exEnv_any _ _ _ (HM4.out.stays bndAt_stays hHeld.1) (by first | exact HEV.out | exact HEV.out.stays hb6)).mono ?_; rintro e w7 ⟨A7, c7, rfl, HV7, hb7⟩; (try (have y6b := box_bel y6.out hb7; clear y6; have y6 := Lib.hid y6b; clear y6b)))
    refine hK.out _ _ (⟨bel_tr hHeld.1 hb7, cell_stays hb7 hHeld.2⟩) (fun hHeld => ?_)
    clear hK K
    try simp only [Act.put, List.setIfInBounds_toArray, List.set_cons_zero, List.set_cons_succ]
    focus (refine wpAnyH_take (i := 3) (v := ?_) rfl (by kernel_rfl) (by kernel_rfl) (by kernel_rfl) (fun _ _ _ h => h) (Or.inl ⟨by rfl, ?_⟩) (by assumption) ?_; rotate_left 1; (focus (intro wS hSw; (try dsimp only at hSw); go_simp <;> with_reducible rfl)); try simp only [Act.put, List.setIfInBounds_toArray])
    focus (refine wpAnyH_take (i := 4) (v := ?_) rfl (by kernel_rfl) (by kernel_rfl) (by kernel_rfl) (fun _ _ _ h => h) (Or.inl ⟨by rfl, ?_⟩) (by assumption) ?_; rotate_left 1; (focus (intro wS hSw; (try dsimp only at hSw); go_simp <;> with_reducible rfl)); try simp only [Act.put])
    focus (refine wpAnyH_take (i := 5) (v := ?_) rfl (by kernel_rfl) (by kernel_rfl) (by kernel_rfl) (fun _ _ _ h => h) (Or.inl ⟨by rfl, ?_⟩) (by assumption) ?_; rotate_left 1; (focus (intro wS hSw; (try dsimp only at hSw); go_simp <;> with_reducible rfl)); try simp only [Act.put])
    refine wpAnyH_ready (rs := [6]) (by kernel_rfl) (by simp) ?_
    refine AllReadyH.cons rfl (fun K hK => ?_) ?_
    focus (go_simp; have hx6 : W4.heap.size ≤ _ := hHeld.1.size; refine al_gen (K := fun W => K _ W) fun w6 hb6 hy6 => ?_; have y6 := Lib.hid hy6; clear hy6)
    refine hK.out _ _ (⟨bel_tr hHeld.1 hb6, cell_stays hb6 hHeld.2⟩) (fun hHeld => ?_)
    clear hK K
    try simp only [Act.put, List.setIfInBounds_toArray, List.set_cons_zero, List.set_cons_succ]
    refine wpAnyH_ready (rs := [7]) (by kernel_rfl) (by simp) ?_
    refine AllReadyH.cons rfl (fun K hK => ?_) ?_
    focus (have y6c := y6.out.cell; have y6f := y6.out.frozen; go_simp; clear y6c y6f)
    refine hK.out _ _ (⟨bel_set hHeld.1 (by first | exact hx6 | (simp at hx6; omega)) _, cell_stays (bel_set hHeld.1 (by first | exact hx6 | (simp at hx6; omega)) _) m4⟩) (fun hHeld => ?_)
    clear hK K
    try simp only [Act.put, List.setIfInBounds_toArray, List.set_cons_zero, List.set_cons_succ]
    focus (refine wpAnyH_take (i := 8) (v := ?_) rfl (by kernel_rfl) (by kernel_rfl) (by kernel_rfl) (fun _ _ _ h => h) (Or.inl ⟨by rfl, ?_⟩) (by assumption) ?_; rotate_left 1; (focus (intro wS hSw; (try dsimp only at hSw); go_simp <;> with_reducible rfl)); try simp only [Act.put, List.setIfInBounds_toArray])
    refine wpAnyH_done (by kernel_rfl) (NoPanic.normal ?_) _
    rotate_left 1
    exact AllReadyH.nil
    exact AllReadyH.nil
    refine AllReadyH.cons rfl (fun K hK => ?_) ?_
    focus (go_simp; have hx6 : W4.heap.size ≤ _ := hHeld.1.size; refine al_gen (K := fun W => K _ W) fun w6 hb6 hy6 => ?_; have y6 := Lib.hid hy6; clear hy6)
    refine hK.out _ _ (⟨bel_tr hHeld.1 hb6, cell_stays hb6 hHeld.2⟩) (fun hHeld => ?_)
    clear hK K
    try simp only [Act.put, List.setIfInBounds_toArray, List.set_cons_zero, List.set_cons_succ]
    refine wpAnyH_ready (rs := [2]) (by kernel_rfl) (by simp) ?_
    refine AllReadyH.cons rfl (fun K hK => ?_) ?_
    focus (go_simp; go_at_call 22; refine (exEnv_any _ _ _ (HM4.out.stays bndAt_stays hHeld.1) (by first | exact HEV.out | exact HEV.out.stays hb6)).mono ?_; rintro e w7 ⟨A7, c7, rfl, HV7, hb7⟩; (try (have y6b := box_bel y6.out hb7; clear y6; have y6 := Lib.hid y6b; clear y6b)))
    refine hK.out _ _ (⟨bel_tr hHeld.1 hb7, cell_stays hb7 hHeld.2⟩) (fun hHeld => ?_)
    clear hK K
    try simp only [Act.put, List.setIfInBounds_toArray, List.set_cons_zero, List.set_cons_succ]
    focus (refine wpAnyH_take (i := 3) (v := ?_) rfl (by kernel_rfl) (by kernel_rfl) (by kernel_rfl) (fun _ _ _ h => h) (Or.inl ⟨by rfl, ?_⟩) (by assumption) ?_; rotate_left 1; (focus (intro wS hSw; (try dsimp only at hSw); go_simp <;> with_reducible rfl)); try simp only [Act.put, List.setIfInBounds_toArray])
    focus (refine wpAnyH_take (i := 4) (v := ?_) rfl (by kernel_rfl) (by kernel_rfl) (by kernel_rfl) (fun _ _ _ h => h) (Or.inl ⟨by rfl, ?_⟩) (by assumption) ?_; rotate_left 1; (focus (intro wS hSw; (try dsimp only at hSw); go_simp <;> with_reducible rfl)); try simp only [Act.put])
    focus (refine wpAnyH_take (i := 5) (v := ?_) rfl (by kernel_rfl) (by kernel_rfl) (by kernel_rfl) (fun _ _ _ h => h) (Or.inl ⟨by rfl, ?_⟩) (by assumption) ?_; rotate_left 1; (focus (intro wS hSw; (try dsimp only at hSw); go_simp <;> with_reducible rfl)); try simp only [Act.put])
    refine wpAnyH_ready (rs := [7]) (by kernel_rfl) (by simp) ?_
    refine AllReadyH.cons rfl (fun K hK => ?_) ?_
    focus (have y6c := y6.out.cell; have y6f := y6.out.frozen; go_simp; clear y6c y6f)
    refine hK.out _ _ (⟨bel_set hHeld.1 (by first | exact hx6 | (simp at hx6; omega)) _, cell_stays (bel_set hHeld.1 (by first | exact hx6 | (simp at hx6; omega)) _) m4⟩) (fun hHeld => ?_)
    clear hK K
    try simp only [Act.put, List.setIfInBounds_toArray, List.set_cons_zero, List.set_cons_succ]
    focus (refine wpAnyH_take (i := 8) (v := ?_) rfl (by kernel_rfl) (by kernel_rfl) (by kernel_rfl) (fun _ _ _ h => h) (Or.inl ⟨by rfl, ?_⟩) (by assumption) ?_; rotate_left 1; (focus (intro wS hSw; (try dsimp only at hSw); go_simp <;> with_reducible rfl)); try simp only [Act.put, List.setIfInBounds_toArray])
    refine wpAnyH_done (by kernel_rfl) (NoPanic.normal ?_) _
    rotate_left 1
    exact AllReadyH.nil
    exact AllReadyH.nil
    exact AllReadyH.nil
    refine AllReadyH.cons rfl (fun K hK => ?_) ?_
    focus (go_simp; have hx6 : W4.heap.size ≤ _ := hHeld.1.size; refine al_gen (K := fun W => K _ W) fun w6 hb6 hy6 => ?_; have y6 := Lib.hid hy6; clear hy6)
    refine hK.out _ _ (⟨bel_tr hHeld.1 hb6, cell_stays hb6 hHeld.2⟩) (fun hHeld => ?_)
    clear hK K
    try simp only [Act.put, List.setIfInBounds_toArray, List.set_cons_zero, List.set_cons_succ]
    refine wpAnyH_ready (rs := [0]) (by kernel_rfl) (by simp) ?_
    refine AllReadyH.cons rfl (fun K hK => ?_) ?_
    focus (go_simp; go_at_call 47; refine (events_any _).mono ?_; rintro e w5 ⟨rfl, hev, hb5⟩; have HEV := Lib.hid hev; clear hev; (try (have y6b := box_bel y6.out hb5; clear y6; have y6 := Lib.hid y6b; clear y6b)))
    refine hK.out _ _ (⟨bel_tr hHeld.1 hb5, cell_stays hb5 hHeld.2⟩) (fun hHeld => ?_)
    clear hK K
    try simp only [Act.put, List.setIfInBounds_toArray, List.set_cons_zero, List.set_cons_succ]
    refine wpAnyH_ready (rs := [2]) (by kernel_rfl) (by simp) ?_
    refine AllReadyH.cons rfl (fun K hK => ?_) ?_
    focus (go_simp; go_at_call 22; refine (exEnv_any _ _ _ (HM4.out.stays bndAt_stays hHeld.1) (by first | exact HEV.out | exact HEV.out.stays hb6)).mono ?_; rintro e w7 ⟨A7, c7, rfl, HV7, hb7⟩; (try (have y6b := box_bel y6.out hb7; clear y6; have y6 := Lib.hid y6b; clear y6b)))
    refine hK.out _ _ (⟨bel_tr hHeld.1 hb7, cell_stays hb7 hHeld.2⟩) (fun hHeld => ?_)
    clear hK K
    try simp only [Act.put, List.setIfInBounds_toArray, List.set_cons_zero, List.set_cons_succ]
    focus (refine wpAnyH_take (i := 3) (v := ?_) rfl (by kernel_rfl) (by kernel_rfl) (by kernel_rfl) (fun _ _ _ h => h) (Or.inl ⟨by rfl, ?_⟩) (by assumption) ?_; rotate_left 1; (focus (intro wS hSw; (try dsimp only at hSw); go_simp <;> with_reducible rfl)); try simp only [Act.put, List.setIfInBounds_toArray])
    focus (refine wpAnyH_take (i := 4) (v := ?_) rfl (by kernel_rfl) (by kernel_rfl) (by kernel_rfl) (fun _ _ _ h => h) (Or.inl ⟨by rfl, ?_⟩) (by assumption) ?_; rotate_left 1; (focus (intro wS hSw; (try dsimp only at hSw); go_simp <;> with_reducible rfl)); try simp only [Act.put])
    focus (refine wpAnyH_take (i := 5) (v := ?_) rfl (by kernel_rfl) (by kernel_rfl) (by kernel_rfl) (fun _ _ _ h => h) (Or.inl ⟨by rfl, ?_⟩) (by assumption) ?_; rotate_left 1; (focus (intro wS hSw; (try dsimp only at hSw); go_simp <;> with_reducible rfl)); try simp only [Act.put])
    refine wpAnyH_ready (rs := [7]) (by kernel_rfl) (by simp) ?_
    refine AllReadyH.cons rfl (fun K hK => ?_) ?_
    focus (have y6c := y6.out.cell; have y6f := y6.out.frozen; go_simp; clear y6c y6f)
    refine hK.out _ _ (⟨bel_set hHeld.1 (by first | exact hx6 | (simp at hx6; omega)) _, cell_stays (bel_set hHeld.1 (by first | exact hx6 | (simp at hx6; omega)) _) m4⟩) (fun hHeld => ?_)
    clear hK K
    try simp only [Act.put, List.setIfInBounds_toArray, List.set_cons_zero, List.set_cons_succ]
    focus (refine wpAnyH_take (i := 8) (v := ?_) rfl (by kernel_rfl) (by kernel_rfl) (by kernel_rfl) (fun _ _ _ h => h) (Or.inl ⟨by rfl, ?_⟩) (by assumption) ?_; rotate_left 1; (focus (intro wS hSw; (try dsimp only at hSw); go_simp <;> with_reducible rfl)); try simp only [Act.put, List.setIfInBounds_toArray])
    refine wpAnyH_done (by kernel_rfl) (NoPanic.normal ?_) _
    rotate_left 1
    exact AllReadyH.nil
    exact AllReadyH.nil
    exact AllReadyH.nil
    exact AllReadyH.nil
    all_goals
      refine ⟨rfl, ?_⟩
      unfold R4
      (repeat apply Exists.intro)
      refine ⟨?_, ?_⟩
      focus (simp only [Act.put, List.setIfInBounds_toArray, List.set_cons_zero, List.set_cons_succ]; rfl)
      have hlt6 := y6.out.lt
      have hc6 := (y6.out.set (.slice A7 exE.length c7)).cell
      refine Lib.hid ⟨by first | exact hx6 | (simp at hx6; omega), by simp at hlt6 ⊢; omega, hc6, ?_, hHeld.1⟩
      first
        | exact exE_box y6.out HV7.out
        | exact exE_box y6.out (HV7.out.stays varAt_stays hb6)
  · unfold R4
    rintro a' w' ⟨X7, u33, u34, u35, u36, u37, A7, c7, rfl, H7⟩
    simp only [Act.put, List.setIfInBounds_toArray, List.set_cons_zero, List.set_cons_succ]
    have hb7 := H7.out.2.2.2.2
    have m7 := cell_stays hb7 m4
    have HM7 : Hid (IsBnds w' (.slice A1 exM.length c1) exM) := Lib.hid (HM4.out.stays bndAt_stays hb7)
    have HB7 : Hid (Below w.heap.size w w') := Lib.hid (bel_tr HB4.out hb7)
    have hs7 : X1 < w'.heap.size := Nat.lt_of_lt_of_le hs4 hb7.size
    have hx7 := H7.out.1
    have hx71 : X1 < X7 := by omega
    have hx7s := H7.out.2.1
    have e7 := H7.out.2.2.1
    have HV7 := Lib.hid H7.out.2.2.2.1
    clear H7 hb7 m4 HM4 HB4 hs4 hx7
    go_wp2_with (go_at_call 47; refine (events_any _).mono ?_; rintro e w8 ⟨rfl, hev, hb8⟩; have HEV := Lib.hid hev; clear hev)
    refine calls_gen fun W9 e9 => ?_
    have hb9 : Below w8.heap.size w8 W9 := by rw [e9]; exact (by repeat (first | exact Below.refl _ _ | assumption | refine Below.drew ?_ | refine bel_al ?_ _ | refine bel_set ?_ (by omega) _ | refine bel_tr ?_ (by assumption)))
    have p0 : W9.cell? ⟨w8.heap.size, 0, none⟩ = some (.int .i64 0) := by rw [e9]; go_simp
    have p1 : W9.cell? ⟨w8.heap.size, 1, none⟩ = some (.int .i64 4) := by rw [e9]; go_simp
    have p2 : W9.cell? ⟨w8.heap.size, 2, none⟩ = some (.int .i64 0) := by rw [e9]; go_simp
    have p3 : W9.cell? ⟨w8.heap.size, 3, none⟩ = some (.int .i64 0) := by rw [e9]; go_simp
    clear e9
    refine (exNone_any w8.heap.size W9 w'.heap.size (HEV.out.stays hb9) p0 p1 p2 p3).mono ?_
    clear p0 p1 p2 p3
    rintro e w10 ⟨A10, c10, rfl, hb10⟩
    have hb710 := bel_tr hb8 (bel_tr hb9 hb10)
    replace m7 := cell_stays hb710 m7
    replace e7 := cell_stays hb710 e7
    have HM10 : Hid (IsBnds w10 (.slice A1 exM.length c1) exM) := Lib.hid (HM7.out.stays bndAt_stays hb710)
    have HV10 : Hid (IsVars w10 (.slice A7 exE.length c7) exE) := Lib.hid (HV7.out.stays varAt_stays hb710)
    have HB10 : Hid (Below w.heap.size w w10) := Lib.hid (bel_tr HB7.out hb710)
    have hs10 : X7 < w10.heap.size := Nat.lt_of_lt_of_le hx7s hb710.size
    have hwX : w.heap.size ≤ X1 := hX1w
    clear hb8 hb9 hb10 hb710 HM7 HV7 HB7 HEV hs7 hx7s
    have hE2 : exE.length = 2 := rfl
    have n7 : ∀ ob, (w10.alloc ob).cell? ⟨X7, 0, none⟩ = some (.slice A7 exE.length c7) := fun ob => cell_stays (bel_one w10 ob) e7
    go_wp2_with fail
    refine calls_gen fun W11 e11 => ?_
    have hb11 : Below w10.heap.size w10 W11 := by rw [e11]; exact (by repeat (first | exact Below.refl _ _ | assumption | refine Below.drew ?_ | refine bel_al ?_ _ | refine bel_set ?_ (by omega) _ | refine bel_tr ?_ (by assumption)))
    have p0 : W11.cell? ⟨w10.heap.size + 1, 0, none⟩ = some (.int .i64 0) := by rw [e11]; go_simp
    have p1 : W11.cell? ⟨w10.heap.size + 1, 1, none⟩ = some (.int .i64 2) := by rw [e11]; go_simp
    have p2 : W11.cell? ⟨w10.heap.size + 1, 2, none⟩ = some (.int .i64 1) := by rw [e11]; go_simp
    have p3 : W11.cell? ⟨w10.heap.size + 1, 3, none⟩ = some (.int .i64 0) := by rw [e11]; go_simp
    clear e11 n7
    refine (bind2_any (0, 2) (1, 0) exO exO_is (by decide) (by decide) (w10.heap.size + 1) W11 p0 p1 p2 p3).mono ?_
    clear p0 p1 p2 p3
    rintro e w12 ⟨A12, c12, rfl, HO12, hb12⟩
    have hck := mcheck_any exO _ w12 HO12.out
    rw [exO_err] at hck
    unfold matV at hck
    have HCK := Lib.hid hck
    clear hck
    go_wp2_with (go_at_call 14; refine HCK.out.mono ?_; rintro e w13 ⟨rfl, hb13⟩)
    have hb1013 := bel_tr hb11 (bel_tr hb12 hb13)
    replace m7 := cell_stays hb1013 m7
    replace e7 := cell_stays hb1013 e7
    have HM13 : Hid (IsBnds w13 (.slice A1 exM.length c1) exM) := Lib.hid (HM10.out.stays bndAt_stays hb1013)
    have HV13 : Hid (IsVars w13 (.slice A7 exE.length c7) exE) := Lib.hid (HV10.out.stays varAt_stays hb1013)
    have HB13 : Hid (Below w.heap.size w w13) := Lib.hid (bel_tr HB10.out hb1013)
    have hs13 : X7 < w13.heap.size := Nat.lt_of_lt_of_le hs10 hb1013.size
    clear hb11 hb12 hb13 hb1013 HM10 HV10 HB10 HCK HO12 hs10 hE2
    refine calls_gen fun W14 e14 => ?_
    have hb14 : Below w13.heap.size w13 W14 := by rw [e14]; exact (by repeat (first | exact Below.refl _ _ | assumption | refine Below.drew ?_ | refine bel_al ?_ _ | refine bel_set ?_ (by omega) _ | refine bel_tr ?_ (by assumption)))
    have p0 : W14.cell? ⟨w13.heap.size, 0, none⟩ = some (.int .i64 0) := by rw [e14]; go_simp
    have p1 : W14.cell? ⟨w13.heap.size, 1, none⟩ = some (.int .i64 0) := by rw [e14]; go_simp
    clear e14
    refine (bind1_any (0, 0) exA exA_is (by decide) w13.heap.size W14 p0 p1).mono ?_
    clear p0 p1
    rintro e w15 ⟨A8, c8, rfl, HA15, hb15⟩
    have hb1315 := Lib.hid (bel_tr hb14 hb15)
    clear hb14 hb15
    go_wp2_with fail
    refine calls_gen fun W16 e16 => ?_
    have hb16 : Below w15.heap.size w15 W16 := by rw [e16]; exact (by repeat (first | exact Below.refl _ _ | assumption | refine Below.drew ?_ | refine bel_al ?_ _ | refine bel_set ?_ (by omega) _ | refine bel_tr ?_ (by assumption)))
    have p0 : W16.cell? ⟨w15.heap.size, 0, none⟩ = some (.int .i64 1) := by rw [e16]; go_simp
    have p1 : W16.cell? ⟨w15.heap.size, 1, none⟩ = some (.int .i64 0) := by rw [e16]; go_simp
    clear e16
    refine (bind1_any (1, 0) exB exB_is (by decide) w15.heap.size W16 p0 p1).mono ?_
    clear p0 p1
    rintro e w17 ⟨A9, c9, rfl, HC17, hb17⟩
    have hb1317 := bel_tr hb1315.out (bel_tr hb16 hb17)
    have HA17 := hid_bnds HA15 (bel_tr hb16 hb17)
    replace m7 := cell_stays hb1317 m7
    replace e7 := cell_stays hb1317 e7
    have HM17 : Hid (IsBnds w17 (.slice A1 exM.length c1) exM) := hid_bnds HM13 hb1317
    have HV17 : Hid (IsVars w17 (.slice A7 exE.length c7) exE) := Lib.hid (HV13.out.stays varAt_stays hb1317)
    have HB17 : Hid (Below w.heap.size w w17) := Lib.hid (bel_tr HB13.out hb1317)
    have hs17 : X7 < w17.heap.size := Nat.lt_of_lt_of_le hs13 hb1317.size
    clear hb16 hb17 hb1317 hb1315 HA15 HM13 HV13 HB13 hs13
    have n1 : ∀ o1 o2, ((w17.alloc o1).alloc o2).cell? ⟨X1, 0, none⟩ = some (.slice A1 exM.length c1) := fun o1 o2 => cell_stays (bel_tr (bel_one _ _) (bel_one _ _)) m7
    go_wp2_with fail
    refine calls_gen fun W18 e18 => ?_
    have hb18 : Below w17.heap.size w17 W18 := by rw [e18]; exact (by repeat (first | exact Below.refl _ _ | assumption | refine Below.drew ?_ | refine bel_al ?_ _ | refine bel_set ?_ (by omega) _ | refine bel_tr ?_ (by assumption)))
    have q0 : W18.cell? ⟨w17.heap.size + 1 + 1, 0, none⟩ = some (.slice A1 exM.length c1) := by rw [e18]; go_simp
    have q1 : W18.cell? ⟨w17.heap.size + 1 + 1, 1, none⟩ = some (.slice A9 exB.length c9) := by rw [e18]; go_simp
    have q2 : W18.cell? ⟨w17.heap.size + 1 + 1, 2, none⟩ = some (.slice A8 exA.length c8) := by rw [e18]; go_simp
    have q3 : W18.cell? ⟨w17.heap.size + 1 + 1, 3, none⟩ = some (.slice A1 exM.length c1) := by rw [e18]; go_simp
    have a11 : W18.cell? ⟨w17.heap.size, 0, none⟩ = some (.slice A8 exA.length c8) := by rw [e18]; go_simp
    have a12 : W18.cell? ⟨w17.heap.size + 1, 0, none⟩ = some (.slice A9 exB.length c9) := by rw [e18]; go_simp
    clear e18 n1
    have HM18 := hid_bnds HM17 hb18
    have HA18 := hid_bnds HA17 hb18
    have HC18 := hid_bnds HC17 hb18
    have hms := msort_any [exM, exB, exA, exM] _ W18 (mats4 q0 q1 q2 q3 HM18.out HC18.out HA18.out) (by decide)
    rw [ex_sort] at hms
    refine hms.mono ?_
    clear hms q0 q1 q2 q3
    rintro e w19 ⟨v19, rfl, hS19, hb19⟩
    have HS19 := Lib.hid hS19
    obtain ⟨A19, c19, rfl, -⟩ := hS19
    have HM19 := hid_bnds HM18 hb19
    have HA19 := hid_bnds HA18 hb19
    have HC19 := hid_bnds HC18 hb19
    have hb1719 := bel_tr hb18 hb19
    replace m7 := cell_stays hb1719 m7
    replace e7 := cell_stays hb1719 e7
    replace a11 := cell_stays hb19 a11
    replace a12 := cell_stays hb19 a12
    have hvv := HV17.out.stays varAt_stays hb1719
    obtain ⟨A', c', hA', g1, g2, hat⟩ := hvv
    obtain ⟨b7, o7, hb7o, u0, hu0, r0⟩ := hat 0 _ rfl
    obtain ⟨b8, o8, hb8o, u1, hu1, r1⟩ := hat 1 _ rfl
    have hA7 : A7 = some ⟨b7, o7, none⟩ := by rw [← hb7o]; simpa using (by simpa using hA' : A7 = A' ∧ c7 = c').1
    have h78 : b7 = b8 ∧ o7 = o8 := by rw [hb7o] at hb8o; simpa using hb8o
    obtain ⟨rfl, rfl⟩ := h78
    subst hA7
    have HU0 := Lib.hid hu0
    have HU1 := Lib.hid hu1
    obtain ⟨A20, c20, rfl, -⟩ := hu0
    obtain ⟨A21, c21, rfl, -⟩ := hu1
    have HB19 : Hid (Below w.heap.size w w19) := Lib.hid (bel_tr HB17.out hb1719)
    simp only [Nat.zero_mul, Nat.one_mul, Nat.add_zero] at r0 r1
    have hE2 : exE.length = 2 := rfl
    rw [hE2] at e7
    obtain ⟨X11, hX11⟩ : ∃ X11, X11 = w17.heap.size := ⟨_, rfl⟩
    rw [← hX11] at a11 a12
    rw [← hX11]
    obtain ⟨X12, hX12⟩ : ∃ X12, X12 = X11 + 1 := ⟨_, rfl⟩
    rw [← hX12] at a12
    rw [← hX12]
    clear hX12 hb18 hb19 hb1719 HM18 HA18 HC18 HM17 HA17 HC17 HV17 HB17 hat g1 g2 hA' hb7o hb8o hE2 hX11
    go_wp2_with fail
    -- REGION10
    refine wp_region_noPanic ?_
    refine wp_region_held_drew (S := fun W => Below w19.heap.size w19 W ∧ W.cell? ⟨X1, 0, none⟩ = some (.slice A1 exM.length c1) ∧ W.cell? ⟨X11, 0, none⟩ = some (.slice A8 exA.length c8) ∧ W.cell? ⟨X12, 0, none⟩ = some (.slice A9 exB.length c9) ∧ W.cell? ⟨X7, 0, none⟩ = some (.slice (some ⟨b7, o7, none⟩) 2 c7) ∧ W.cell? ⟨b7, o7, none⟩ = some (.slice A20 1 c20) ∧ W.cell? ⟨b7, o7 + 1, none⟩ = some (.slice A21 1 c21)) (by kernel_rfl) (⟨(by repeat (first | exact Below.refl _ _ | assumption | refine Below.drew ?_ | refine bel_al ?_ _ | refine bel_set ?_ (by omega) _ | refine bel_tr ?_ (by assumption))), m7, a11, a12, e7, r0, r1⟩) (fun hHeld => ?_)
    generalize w19.drew = wD at hHeld ⊢
    focus (refine wpAnyH_take2 (i := 0) (fuel := 52) (L := (true :: false :: false :: false :: false :: false :: false :: false :: false :: false :: false :: false :: false :: false :: false :: false :: false :: false :: false :: false :: false :: false :: false :: false :: false :: false :: false :: false :: false :: false :: false :: false :: false :: false :: false :: false :: false :: false :: false :: false :: false :: false :: false :: false :: false :: false :: false :: false :: false :: false :: false :: false :: false :: []).toArray) (v := ?_) rfl rfl (by kernel_rfl) (by kernel_rfl) (by kernel_rfl) (by kernel_rfl) (fun _ _ _ h => h) (by kernel_rfl) ?_ (by assumption) ?_; rotate_left 1; (focus (intro wS hSw; (try dsimp only at hSw); go_simp <;> with_reducible rfl)); simp only [List.set_cons_zero, List.set_cons_succ])
    focus (refine wpAnyH_take2 (i := 1) (fuel := 51) (L := (true :: true :: false :: false :: false :: false :: false :: false :: false :: false :: false :: false :: false :: false :: false :: false :: false :: false :: false :: false :: false :: false :: false :: false :: false :: false :: false :: false :: false :: false :: false :: false :: false :: false :: false :: false :: false :: false :: false :: false :: false :: false :: false :: false :: false :: false :: false :: false :: false :: false :: false :: false :: false :: []).toArray) (v := ?_) rfl rfl (by kernel_rfl) (by kernel_rfl) (by kernel_rfl) (by kernel_rfl) (fun _ _ _ h => h) (by kernel_rfl) ?_ (by assumption) ?_; rotate_left 1; (focus (intro wS hSw; (try dsimp only at hSw); go_simp <;> with_reducible rfl)); simp only [List.set_cons_zero, List.set_cons_succ])
    focus (refine wpAnyH_take2 (i := 2) (fuel := 50) (L := (true :: true :: true :: false :: false :: false :: false :: false :: false :: false :: false :: false :: false :: false :: false :: false :: false :: false :: false :: false :: false :: false :: false :: false :: false :: false :: false :: false :: false :: false :: false :: false :: false :: false :: false :: false :: false :: false :: false :: false :: false :: false :: false :: false :: false :: false :: false :: false :: false :: false :: false :: false :: false :: []).toArray) (v := ?_) rfl rfl (by kernel_rfl) (by kernel_rfl) (by kernel_rfl) (by kernel_rfl) (fun _ _ _ h => h) (by kernel_rfl) ?_ (by assumption) ?_; rotate_left 1; (focus (intro wS hSw; (try dsimp only at hSw); go_simp <;> with_reducible rfl)); simp only [List.set_cons_zero, List.set_cons_succ])
    focus (refine wpAnyH_take2 (i := 3) (fuel := 49) (L := (true :: true :: true :: true :: false :: false :: false :: false :: false :: false :: false :: false :: false :: false :: false :: false :: false :: false :: false :: false :: false :: false :: false :: false :: false :: false :: false :: false :: false :: false :: false :: false :: false :: false :: false :: false :: false :: false :: false :: false :: false :: false :: false :: false :: false :: false :: false :: false :: false :: false :: false :: false :: false :: []).toArray) (v := ?_) rfl rfl (by kernel_rfl) (by kernel_rfl) (by kernel_rfl) (by kernel_rfl) (fun _ _ _ h => h) (by kernel_rfl) ?_ (by assumption) ?_; rotate_left 1; (focus (intro wS hSw; (try dsimp only at hSw); go_simp <;> with_reducible rfl)); simp only [List.set_cons_zero, List.set_cons_succ])
    focus (refine wpAnyH_take2 (i := 4) (fuel := 48) (L := (true :: true :: true :: true :: true :: false :: false :: false :: false :: false :: false :: false :: false :: false :: false :: false :: false :: false :: false :: false :: false :: false :: false :: false :: false :: false :: false :: false :: false :: false :: false :: false :: false :: false :: false :: false :: false :: false :: false :: false :: false :: false :: false :: false :: false :: false :: false :: false :: false :: false :: false :: false :: false :: []).toArray) (v := ?_) rfl rfl (by kernel_rfl) (by kernel_rfl) (by kernel_rfl) (by kernel_rfl) (fun _ _ _ h => h) (by kernel_rfl) ?_ (by assumption) ?_; rotate_left 1; (focus (intro wS hSw; (try dsimp only at hSw); go_simp <;> with_reducible rfl)); simp only [List.set_cons_zero, List.set_cons_succ])
    focus (refine wpAnyH_take2 (i := 5) (fuel := 47) (L := (true :: true :: true :: true :: true :: true :: false :: false :: false :: false :: false :: false :: false :: false :: false :: false :: false :: false :: false :: false :: false :: false :: false :: false :: false :: false :: false :: false :: false :: false :: false :: false :: false :: false :: false :: false :: false :: false :: false :: false :: false :: false :: false :: false :: false :: false :: false :: false :: false :: false :: false :: false :: false :: []).toArray) (v := ?_) rfl rfl (by kernel_rfl) (by kernel_rfl) (by kernel_rfl) (by kernel_rfl) (fun _ _ _ h => h) (by kernel_rfl) ?_ (by assumption) ?_; rotate_left 1; (focus (intro wS hSw; (try dsimp only at hSw); go_simp <;> with_reducible rfl)); simp only [List.set_cons_zero, List.set_cons_succ])
    focus (refine wpAnyH_take2 (i := 6) (fuel := 46) (L := (true :: true :: true :: true :: true :: true :: true :: false :: false :: false :: false :: false :: false :: false :: false :: false :: false :: false :: false :: false :: false :: false :: false :: false :: false :: false :: false :: false :: false :: false :: false :: false :: false :: false :: false :: false :: false :: false :: false :: false :: false :: false :: false :: false :: false :: false :: false :: false :: false :: false :: false :: false :: false :: []).toArray) (v := ?_) rfl rfl (by kernel_rfl) (by kernel_rfl) (by kernel_rfl) (by kernel_rfl) (fun _ _ _ h => h) (by kernel_rfl) ?_ (by assumption) ?_; rotate_left 1; (focus (intro wS hSw; (try dsimp only at hSw); go_simp <;> with_reducible rfl)); simp only [List.set_cons_zero, List.set_cons_succ])
    refine wpAnyH_next (i := 7) (fuel := 45) (L := (true :: true :: true :: true :: true :: true :: true :: true :: false :: false :: false :: false :: false :: false :: false :: false :: false :: false :: false :: false :: false :: false :: false :: false :: false :: false :: false :: false :: false :: false :: false :: false :: false :: false :: false :: false :: false :: false :: false :: false :: false :: false :: false :: false :: false :: false :: false :: false :: false :: false :: false :: false :: false :: []).toArray) rfl (by kernel_rfl) (by kernel_rfl) (by kernel_rfl) (fun K hK => ?_)
    focus (go_simp; refine al_gen2 (K := fun W => K _ W) fun w20 hb20 f20 => ?_)
    refine hK.out _ _ (⟨bel_tr hHeld.1 hb20, cell_stays hb20 hHeld.2.1, cell_stays hb20 hHeld.2.2.1, cell_stays hb20 hHeld.2.2.2.1, cell_stays hb20 hHeld.2.2.2.2.1, cell_stays hb20 hHeld.2.2.2.2.2.1, cell_stays hb20 hHeld.2.2.2.2.2.2⟩) (fun hHeld => ?_)
    clear hK K
    refine wpAnyH_next (i := 8) (fuel := 44) (L := (true :: true :: true :: true :: true :: true :: true :: true :: true :: false :: false :: false :: false :: false :: false :: false :: false :: false :: false :: false :: false :: false :: false :: false :: false :: false :: false :: false :: false :: false :: false :: false :: false :: false :: false :: false :: false :: false :: false :: false :: false :: false :: false :: false :: false :: false :: false :: false :: false :: false :: false :: false :: false :: []).toArray) rfl (by kernel_rfl) (by kernel_rfl) (by kernel_rfl) (fun K hK => ?_)
    focus (go_simp; go_at_call 20; refine (exSame_any _ _ _ (HS19.out.stays matAt_stays hHeld.1) f20 (HA19.out.stays bndAt_stays hHeld.1) (HC19.out.stays bndAt_stays hHeld.1) (HM19.out.stays bndAt_stays hHeld.1)).mono ?_; rintro e w21 ⟨rfl, hb21⟩)
    refine hK.out _ _ (⟨bel_tr hHeld.1 hb21, cell_stays hb21 hHeld.2.1, cell_stays hb21 hHeld.2.2.1, cell_stays hb21 hHeld.2.2.2.1, cell_stays hb21 hHeld.2.2.2.2.1, cell_stays hb21 hHeld.2.2.2.2.2.1, cell_stays hb21 hHeld.2.2.2.2.2.2⟩) (fun hHeld => ?_)
    clear hK K
    focus (refine wpAnyH_take2 (i := 9) (fuel := 43) (L := (true :: true :: true :: true :: true :: true :: true :: true :: true :: true :: false :: false :: false :: false :: false :: false :: false :: false :: false :: false :: false :: false :: false :: false :: false :: false :: false :: false :: false :: false :: false :: false :: false :: false :: false :: false :: false :: false :: false :: false :: false :: false :: false :: false :: false :: false :: false :: false :: false :: false :: false :: false :: false :: []).toArray) (v := ?_) rfl rfl (by kernel_rfl) (by kernel_rfl) (by kernel_rfl) (by kernel_rfl) (fun _ _ _ h => h) (by kernel_rfl) ?_ (by assumption) ?_; rotate_left 1; (focus (intro wS hSw; (try dsimp only at hSw); go_simp <;> with_reducible rfl)); simp only [List.set_cons_zero, List.set_cons_succ])
    focus (refine wpAnyH_take2 (i := 10) (fuel := 42) (L := (true :: true :: true :: true :: true :: true :: true :: true :: true :: true :: true :: false :: false :: false :: false :: false :: false :: false :: false :: false :: false :: false :: false :: false :: false :: false :: false :: false :: false :: false :: false :: false :: false :: false :: false :: false :: false :: false :: false :: false :: false :: false :: false :: false :: false :: false :: false :: false :: false :: false :: false :: false :: false :: []).toArray) (v := ?_) rfl rfl (by kernel_rfl) (by kernel_rfl) (by kernel_rfl) (by kernel_rfl) (fun _ _ _ h => h) (by kernel_rfl) ?_ (by assumption) ?_; rotate_left 1; (focus (intro wS hSw; (try dsimp only at hSw); go_simp <;> with_reducible rfl)); simp only [List.set_cons_zero, List.set_cons_succ])
    focus (refine wpAnyH_take2 (i := 11) (fuel := 41) (L := (true :: true :: true :: true :: true :: true :: true :: true :: true :: true :: true :: true :: false :: false :: false :: false :: false :: false :: false :: false :: false :: false :: false :: false :: false :: false :: false :: false :: false :: false :: false :: false :: false :: false :: false :: false :: false :: false :: false :: false :: false :: false :: false :: false :: false :: false :: false :: false :: false :: false :: false :: false :: false :: []).toArray) (v := ?_) rfl rfl (by kernel_rfl) (by kernel_rfl) (by kernel_rfl) (by kernel_rfl) (fun _ _ _ h => h) (by kernel_rfl) ?_ (by assumption) ?_; rotate_left 1; (focus (intro wS hSw; (try dsimp only at hSw); go_simp <;> with_reducible rfl)); simp only [List.set_cons_zero, List.set_cons_succ])
    focus (refine wpAnyH_take2 (i := 12) (fuel := 40) (L := (true :: true :: true :: true :: true :: true :: true :: true :: true :: true :: true :: true :: true :: false :: false :: false :: false :: false :: false :: false :: false :: false :: false :: false :: false :: false :: false :: false :: false :: false :: false :: false :: false :: false :: false :: false :: false :: false :: false :: false :: false :: false :: false :: false :: false :: false :: false :: false :: false :: false :: false :: false :: false :: []).toArray) (v := ?_) rfl rfl (by kernel_rfl) (by kernel_rfl) (by kernel_rfl) (by kernel_rfl) (fun _ _ _ h => h) (by kernel_rfl) ?_ (by assumption) ?_; rotate_left 1; (focus (intro wS hSw; (try dsimp only at hSw); go_simp <;> with_reducible rfl)); simp only [List.set_cons_zero, List.set_cons_succ])
    refine wpAnyH_next (i := 13) (fuel := 39) (L := (true :: true :: true :: true :: true :: true :: true :: true :: true :: true :: true :: true :: true :: true :: false :: false :: false :: false :: false :: false :: false :: false :: false :: false :: false :: false :: false :: false :: false :: false :: false :: false :: false :: false :: false :: false :: false :: false :: false :: false :: false :: false :: false :: false :: false :: false :: false :: false :: false :: false :: false :: false :: false :: []).toArray) rfl (by kernel_rfl) (by kernel_rfl) (by kernel_rfl) (fun K hK => ?_)
    focus (go_simp; go_at_call 16; refine (exCmp1_any _ (HA19.out.stays bndAt_stays hHeld.1) (HC19.out.stays bndAt_stays hHeld.1)).mono ?_; rintro e w22 ⟨rfl, hb22⟩)
    refine hK.out _ _ (⟨bel_tr hHeld.1 hb22, cell_stays hb22 hHeld.2.1, cell_stays hb22 hHeld.2.2.1, cell_stays hb22 hHeld.2.2.2.1, cell_stays hb22 hHeld.2.2.2.2.1, cell_stays hb22 hHeld.2.2.2.2.2.1, cell_stays hb22 hHeld.2.2.2.2.2.2⟩) (fun hHeld => ?_)
    clear hK K
    focus (refine wpAnyH_take2 (i := 14) (fuel := 38) (L := (true :: true :: true :: true :: true :: true :: true :: true :: true :: true :: true :: true :: true :: true :: true :: false :: false :: false :: false :: false :: false :: false :: false :: false :: false :: false :: false :: false :: false :: false :: false :: false :: false :: false :: false :: false :: false :: false :: false :: false :: false :: false :: false :: false :: false :: false :: false :: false :: false :: false :: false :: false :: false :: []).toArray) (v := ?_) rfl rfl (by kernel_rfl) (by kernel_rfl) (by kernel_rfl) (by kernel_rfl) (fun _ _ _ h => h) (by kernel_rfl) ?_ (by assumption) ?_; rotate_left 1; (focus (intro wS hSw; (try dsimp only at hSw); go_simp <;> with_reducible rfl)); simp only [List.set_cons_zero, List.set_cons_succ])
    focus (refine wpAnyH_take2 (i := 15) (fuel := 37) (L := (true :: true :: true :: true :: true :: true :: true :: true :: true :: true :: true :: true :: true :: true :: true :: true :: false :: false :: false :: false :: false :: false :: false :: false :: false :: false :: false :: false :: false :: false :: false :: false :: false :: false :: false :: false :: false :: false :: false :: false :: false :: false :: false :: false :: false :: false :: false :: false :: false :: false :: false :: false :: false :: []).toArray) (v := ?_) rfl rfl (by kernel_rfl) (by kernel_rfl) (by kernel_rfl) (by kernel_rfl) (fun _ _ _ h => h) (by kernel_rfl) ?_ (by assumption) ?_; rotate_left 1; (focus (intro wS hSw; (try dsimp only at hSw); go_simp <;> with_reducible rfl)); simp only [List.set_cons_zero, List.set_cons_succ])
    focus (refine wpAnyH_take2 (i := 16) (fuel := 36) (L := (true :: true :: true :: true :: true :: true :: true :: true :: true :: true :: true :: true :: true :: true :: true :: true :: true :: false :: false :: false :: false :: false :: false :: false :: false :: false :: false :: false :: false :: false :: false :: false :: false :: false :: false :: false :: false :: false :: false :: false :: false :: false :: false :: false :: false :: false :: false :: false :: false :: false :: false :: false :: false :: []).toArray) (v := ?_) rfl rfl (by kernel_rfl) (by kernel_rfl) (by kernel_rfl) (by kernel_rfl) (fun _ _ _ h => h) (by kernel_rfl) ?_ (by assumption) ?_; rotate_left 1; (focus (intro wS hSw; (try dsimp only at hSw); go_simp <;> with_reducible rfl)); simp only [List.set_cons_zero, List.set_cons_succ])
    focus (refine wpAnyH_take2 (i := 17) (fuel := 35) (L := (true :: true :: true :: true :: true :: true :: true :: true :: true :: true :: true :: true :: true :: true :: true :: true :: true :: true :: false :: false :: false :: false :: false :: false :: false :: false :: false :: false :: false :: false :: false :: false :: false :: false :: false :: false :: false :: false :: false :: false :: false :: false :: false :: false :: false :: false :: false :: false :: false :: false :: false :: false :: false :: []).toArray) (v := ?_) rfl rfl (by kernel_rfl) (by kernel_rfl) (by kernel_rfl) (by kernel_rfl) (fun _ _ _ h => h) (by kernel_rfl) ?_ (by assumption) ?_; rotate_left 1; (focus (intro wS hSw; (try dsimp only at hSw); go_simp <;> with_reducible rfl)); simp only [List.set_cons_zero, List.set_cons_succ])
    focus (refine wpAnyH_take2 (i := 18) (fuel := 34) (L := (true :: true :: true :: true :: true :: true :: true :: true :: true :: true :: true :: true :: true :: true :: true :: true :: true :: true :: true :: false :: false :: false :: false :: false :: false :: false :: false :: false :: false :: false :: false :: false :: false :: false :: false :: false :: false :: false :: false :: false :: false :: false :: false :: false :: false :: false :: false :: false :: false :: false :: false :: false :: false :: []).toArray) (v := ?_) rfl rfl (by kernel_rfl) (by kernel_rfl) (by kernel_rfl) (by kernel_rfl) (fun _ _ _ h => h) (by kernel_rfl) ?_ (by assumption) ?_; rotate_left 1; (focus (intro wS hSw; (try dsimp only at hSw); go_simp <;> with_reducible rfl)); simp only [List.set_cons_zero, List.set_cons_succ])
    refine wpAnyH_next (i := 19) (fuel := 33) (L := (true :: true :: true :: true :: true :: true :: true :: true :: true :: true :: true :: true :: true :: true :: true :: true :: true :: true :: true :: true :: false :: false :: false :: false :: false :: false :: false :: false :: false :: false :: false :: false :: false :: false :: false :: false :: false :: false :: false :: false :: false :: false :: false :: false :: false :: false :: false :: false :: false :: false :: false :: false :: false :: []).toArray) rfl (by kernel_rfl) (by kernel_rfl) (by kernel_rfl) (fun K hK => ?_)
    focus (go_simp; go_at_call 16; refine (exCmp2_any _ (HM19.out.stays bndAt_stays hHeld.1) (HC19.out.stays bndAt_stays hHeld.1)).mono ?_; rintro e w23 ⟨rfl, hb23⟩)
    refine hK.out _ _ (⟨bel_tr hHeld.1 hb23, cell_stays hb23 hHeld.2.1, cell_stays hb23 hHeld.2.2.1, cell_stays hb23 hHeld.2.2.2.1, cell_stays hb23 hHeld.2.2.2.2.1, cell_stays hb23 hHeld.2.2.2.2.2.1, cell_stays hb23 hHeld.2.2.2.2.2.2⟩) (fun hHeld => ?_)
    clear hK K
    focus (refine wpAnyH_take2 (i := 20) (fuel := 32) (L := (true :: true :: true :: true :: true :: true :: true :: true :: true :: true :: true :: true :: true :: true :: true :: true :: true :: true :: true :: true :: true :: false :: false :: false :: false :: false :: false :: false :: false :: false :: false :: false :: false :: false :: false :: false :: false :: false :: false :: false :: false :: false :: false :: false :: false :: false :: false :: false :: false :: false :: false :: false :: false :: []).toArray) (v := ?_) rfl rfl (by kernel_rfl) (by kernel_rfl) (by kernel_rfl) (by kernel_rfl) (fun _ _ _ h => h) (by kernel_rfl) ?_ (by assumption) ?_; rotate_left 1; (focus (intro wS hSw; (try dsimp only at hSw); go_simp <;> with_reducible rfl)); simp only [List.set_cons_zero, List.set_cons_succ])
    focus (refine wpAnyH_take2 (i := 21) (fuel := 31) (L := (true :: true :: true :: true :: true :: true :: true :: true :: true :: true :: true :: true :: true :: true :: true :: true :: true :: true :: true :: true :: true :: true :: false :: false :: false :: false :: false :: false :: false :: false :: false :: false :: false :: false :: false :: false :: false :: false :: false :: false :: false :: false :: false :: false :: false :: false :: false :: false :: false :: false :: false :: false :: false :: []).toArray) (v := ?_) rfl rfl (by kernel_rfl) (by kernel_rfl) (by kernel_rfl) (by kernel_rfl) (fun _ _ _ h => h) (by kernel_rfl) ?_ (by assumption) ?_; rotate_left 1; (focus (intro wS hSw; (try dsimp only at hSw); go_simp <;> with_reducible rfl)); simp only [List.set_cons_zero, List.set_cons_succ])
    focus (refine wpAnyH_take2 (i := 22) (fuel := 30) (L := (true :: true :: true :: true :: true :: true :: true :: true :: true :: true :: true :: true :: true :: true :: true :: true :: true :: true :: true :: true :: true :: true :: true :: false :: false :: false :: false :: false :: false :: false :: false :: false :: false :: false :: false :: false :: false :: false :: false :: false :: false :: false :: false :: false :: false :: false :: false :: false :: false :: false :: false :: false :: false :: []).toArray) (v := ?_) rfl rfl (by kernel_rfl) (by kernel_rfl) (by kernel_rfl) (by kernel_rfl) (fun _ _ _ h => h) (by kernel_rfl) ?_ (by assumption) ?_; rotate_left 1; (focus (intro wS hSw; (try dsimp only at hSw); go_simp <;> with_reducible rfl)); simp only [List.set_cons_zero, List.set_cons_succ])
    focus (refine wpAnyH_take2 (i := 23) (fuel := 29) (L := (true :: true :: true :: true :: true :: true :: true :: true :: true :: true :: true :: true :: true :: true :: true :: true :: true :: true :: true :: true :: true :: true :: true :: true :: false :: false :: false :: false :: false :: false :: false :: false :: false :: false :: false :: false :: false :: false :: false :: false :: false :: false :: false :: false :: false :: false :: false :: false :: false :: false :: false :: false :: false :: []).toArray) (v := ?_) rfl rfl (by kernel_rfl) (by kernel_rfl) (by kernel_rfl) (by kernel_rfl) (fun _ _ _ h => h) (by kernel_rfl) ?_ (by assumption) ?_; rotate_left 1; (focus (intro wS hSw; (try dsimp only at hSw); go_simp <;> with_reducible rfl)); simp only [List.set_cons_zero, List.set_cons_succ])
    focus (refine wpAnyH_take2 (i := 24) (fuel := 28) (L := (true :: true :: true :: true :: true :: true :: true :: true :: true :: true :: true :: true :: true :: true :: true :: true :: true :: true :: true :: true :: true :: true :: true :: true :: true :: false :: false :: false :: false :: false :: false :: false :: false :: false :: false :: false :: false :: false :: false :: false :: false :: false :: false :: false :: false :: false :: false :: false :: false :: false :: false :: false :: false :: []).toArray) (v := ?_) rfl rfl (by kernel_rfl) (by kernel_rfl) (by kernel_rfl) (by kernel_rfl) (fun _ _ _ h => h) (by kernel_rfl) ?_ (by assumption) ?_; rotate_left 1; (focus (intro wS hSw; (try dsimp only at hSw); go_simp <;> with_reducible rfl)); simp only [List.set_cons_zero, List.set_cons_succ])
    focus (refine wpAnyH_take2 (i := 25) (fuel := 27) (L := (true :: true :: true :: true :: true :: true :: true :: true :: true :: true :: true :: true :: true :: true :: true :: true :: true :: true :: true :: true :: true :: true :: true :: true :: true :: true :: false :: false :: false :: false :: false :: false :: false :: false :: false :: false :: false :: false :: false :: false :: false :: false :: false :: false :: false :: false :: false :: false :: false :: false :: false :: false :: false :: []).toArray) (v := ?_) rfl rfl (by kernel_rfl) (by kernel_rfl) (by kernel_rfl) (by kernel_rfl) (fun _ _ _ h => h) (by kernel_rfl) ?_ (by assumption) ?_; rotate_left 1; (focus (intro wS hSw; (try dsimp only at hSw); go_simp <;> with_reducible rfl)); simp only [List.set_cons_zero, List.set_cons_succ])
    focus (refine wpAnyH_take2 (i := 26) (fuel := 26) (L := (true :: true :: true :: true :: true :: true :: true :: true :: true :: true :: true :: true :: true :: true :: true :: true :: true :: true :: true :: true :: true :: true :: true :: true :: true :: true :: true :: false :: false :: false :: false :: false :: false :: false :: false :: false :: false :: false :: false :: false :: false :: false :: false :: false :: false :: false :: false :: false :: false :: false :: false :: false :: false :: []).toArray) (v := ?_) rfl rfl (by kernel_rfl) (by kernel_rfl) (by kernel_rfl) (by kernel_rfl) (fun _ _ _ h => h) (by kernel_rfl) ?_ (by assumption) ?_; rotate_left 1; (focus (intro wS hSw; (try dsimp only at hSw); go_simp <;> with_reducible rfl)); simp only [List.set_cons_zero, List.set_cons_succ])
    focus (refine wpAnyH_take2 (i := 27) (fuel := 25) (L := (true :: true :: true :: true :: true :: true :: true :: true :: true :: true :: true :: true :: true :: true :: true :: true :: true :: true :: true :: true :: true :: true :: true :: true :: true :: true :: true :: true :: false :: false :: false :: false :: false :: false :: false :: false :: false :: false :: false :: false :: false :: false :: false :: false :: false :: false :: false :: false :: false :: false :: false :: false :: false :: []).toArray) (v := ?_) rfl rfl (by kernel_rfl) (by kernel_rfl) (by kernel_rfl) (by kernel_rfl) (fun _ _ _ h => h) (by kernel_rfl) ?_ (by assumption) ?_; rotate_left 1; (focus (intro wS hSw; (try dsimp only at hSw); go_simp <;> with_reducible rfl)); simp only [List.set_cons_zero, List.set_cons_succ])
    focus (refine wpAnyH_take2 (i := 28) (fuel := 24) (L := (true :: true :: true :: true :: true :: true :: true :: true :: true :: true :: true :: true :: true :: true :: true :: true :: true :: true :: true :: true :: true :: true :: true :: true :: true :: true :: true :: true :: true :: false :: false :: false :: false :: false :: false :: false :: false :: false :: false :: false :: false :: false :: false :: false :: false :: false :: false :: false :: false :: false :: false :: false :: false :: []).toArray) (v := ?_) rfl rfl (by kernel_rfl) (by kernel_rfl) (by kernel_rfl) (by kernel_rfl) (fun _ _ _ h => h) (by kernel_rfl) ?_ (by assumption) ?_; rotate_left 1; (focus (intro wS hSw; (try dsimp only at hSw); go_simp <;> with_reducible rfl)); simp only [List.set_cons_zero, List.set_cons_succ])
    focus (refine wpAnyH_take2 (i := 29) (fuel := 23) (L := (true :: true :: true :: true :: true :: true :: true :: true :: true :: true :: true :: true :: true :: true :: true :: true :: true :: true :: true :: true :: true :: true :: true :: true :: true :: true :: true :: true :: true :: true :: false :: false :: false :: false :: false :: false :: false :: false :: false :: false :: false :: false :: false :: false :: false :: false :: false :: false :: false :: false :: false :: false :: false :: []).toArray) (v := ?_) rfl rfl (by kernel_rfl) (by kernel_rfl) (by kernel_rfl) (by kernel_rfl) (fun _ _ _ h => h) (by kernel_rfl) ?_ (by assumption) ?_; rotate_left 1; (focus (intro wS hSw; (try dsimp only at hSw); go_simp <;> with_reducible rfl)); simp only [List.set_cons_zero, List.set_cons_succ])
    focus (refine wpAnyH_take2 (i := 30) (fuel := 22) (L := (true :: true :: true :: true :: true :: true :: true :: true :: true :: true :: true :: true :: true :: true :: true :: true :: true :: true :: true :: true :: true :: true :: true :: true :: true :: true :: true :: true :: true :: true :: true :: false :: false :: false :: false :: false :: false :: false :: false :: false :: false :: false :: false :: false :: false :: false :: false :: false :: false :: false :: false :: false :: false :: []).toArray) (v := ?_) rfl rfl (by kernel_rfl) (by kernel_rfl) (by kernel_rfl) (by kernel_rfl) (fun _ _ _ h => h) (by kernel_rfl) ?_ (by assumption) ?_; rotate_left 1; (focus (intro wS hSw; (try dsimp only at hSw); go_simp <;> with_reducible rfl)); simp only [List.set_cons_zero, List.set_cons_succ])
    focus (refine wpAnyH_take2 (i := 31) (fuel := 21) (L := (true :: true :: true :: true :: true :: true :: true :: true :: true :: true :: true :: true :: true :: true :: true :: true :: true :: true :: true :: true :: true :: true :: true :: true :: true :: true :: true :: true :: true :: true :: true :: true :: false :: false :: false :: false :: false :: false :: false :: false :: false :: false :: false :: false :: false :: false :: false :: false :: false :: false :: false :: false :: false :: []).toArray) (v := ?_) rfl rfl (by kernel_rfl) (by kernel_rfl) (by kernel_rfl) (by kernel_rfl) (fun _ _ _ h => h) (by kernel_rfl) ?_ (by assumption) ?_; rotate_left 1; (focus (intro wS hSw; (try dsimp only at hSw); go_simp <;> with_reducible rfl)); simp only [List.set_cons_zero, List.set_cons_succ])
    focus (refine wpAnyH_take2 (i := 32) (fuel := 20) (L := (true :: true :: true :: true :: true :: true :: true :: true :: true :: true :: true :: true :: true :: true :: true :: true :: true :: true :: true :: true :: true :: true :: true :: true :: true :: true :: true :: true :: true :: true :: true :: true :: true :: false :: false :: false :: false :: false :: false :: false :: false :: false :: false :: false :: false :: false :: false :: false :: false :: false :: false :: false :: false :: []).toArray) (v := ?_) rfl rfl (by kernel_rfl) (by kernel_rfl) (by kernel_rfl) (by kernel_rfl) (fun _ _ _ h => h) (by kernel_rfl) ?_ (by assumption) ?_; rotate_left 1; (focus (intro wS hSw; (try dsimp only at hSw); go_simp <;> with_reducible rfl)); simp only [List.set_cons_zero, List.set_cons_succ])
    focus (refine wpAnyH_take2 (i := 33) (fuel := 19) (L := (true :: true :: true :: true :: true :: true :: true :: true :: true :: true :: true :: true :: true :: true :: true :: true :: true :: true :: true :: true :: true :: true :: true :: true :: true :: true :: true :: true :: true :: true :: true :: true :: true :: true :: false :: false :: false :: false :: false :: false :: false :: false :: false :: false :: false :: false :: false :: false :: false :: false :: false :: false :: false :: []).toArray) (v := ?_) rfl rfl (by kernel_rfl) (by kernel_rfl) (by kernel_rfl) (by kernel_rfl) (fun _ _ _ h => h) (by kernel_rfl) ?_ (by assumption) ?_; rotate_left 1; (focus (intro wS hSw; (try dsimp only at hSw); go_simp <;> with_reducible rfl)); simp only [List.set_cons_zero, List.set_cons_succ])
    focus (refine wpAnyH_take2 (i := 34) (fuel := 18) (L := (true :: true :: true :: true :: true :: true :: true :: true :: true :: true :: true :: true :: true :: true :: true :: true :: true :: true :: true :: true :: true :: true :: true :: true :: true :: true :: true :: true :: true :: true :: true :: true :: true :: true :: true :: false :: false :: false :: false :: false :: false :: false :: false :: false :: false :: false :: false :: false :: false :: false :: false :: false :: false :: []).toArray) (v := ?_) rfl rfl (by kernel_rfl) (by kernel_rfl) (by kernel_rfl) (by kernel_rfl) (fun _ _ _ h => h) (by kernel_rfl) ?_ (by assumption) ?_; rotate_left 1; (focus (intro wS hSw; (try dsimp only at hSw); go_simp <;> with_reducible rfl)); simp only [List.set_cons_zero, List.set_cons_succ])
    focus (refine wpAnyH_take2 (i := 35) (fuel := 17) (L := (true :: true :: true :: true :: true :: true :: true :: true :: true :: true :: true :: true :: true :: true :: true :: true :: true :: true :: true :: true :: true :: true :: true :: true :: true :: true :: true :: true :: true :: true :: true :: true :: true :: true :: true :: true :: false :: false :: false :: false :: false :: false :: false :: false :: false :: false :: false :: false :: false :: false :: false :: false :: false :: []).toArray) (v := ?_) rfl rfl (by kernel_rfl) (by kernel_rfl) (by kernel_rfl) (by kernel_rfl) (fun _ _ _ h => h) (by kernel_rfl) ?_ (by assumption) ?_; rotate_left 1; (focus (intro wS hSw; (try dsimp only at hSw); go_simp <;> with_reducible rfl)); simp only [List.set_cons_zero, List.set_cons_succ])
    focus (refine wpAnyH_take2 (i := 36) (fuel := 16) (L := (true :: true :: true :: true :: true :: true :: true :: true :: true :: true :: true :: true :: true :: true :: true :: true :: true :: true :: true :: true :: true :: true :: true :: true :: true :: true :: true :: true :: true :: true :: true :: true :: true :: true :: true :: true :: true :: false :: false :: false :: false :: false :: false :: false :: false :: false :: false :: false :: false :: false :: false :: false :: false :: []).toArray) (v := ?_) rfl rfl (by kernel_rfl) (by kernel_rfl) (by kernel_rfl) (by kernel_rfl) (fun _ _ _ h => h) (by kernel_rfl) ?_ (by assumption) ?_; rotate_left 1; (focus (intro wS hSw; (try dsimp only at hSw); go_simp <;> with_reducible rfl)); simp only [List.set_cons_zero, List.set_cons_succ])
    focus (refine wpAnyH_take2 (i := 37) (fuel := 15) (L := (true :: true :: true :: true :: true :: true :: true :: true :: true :: true :: true :: true :: true :: true :: true :: true :: true :: true :: true :: true :: true :: true :: true :: true :: true :: true :: true :: true :: true :: true :: true :: true :: true :: true :: true :: true :: true :: true :: false :: false :: false :: false :: false :: false :: false :: false :: false :: false :: false :: false :: false :: false :: false :: []).toArray) (v := ?_) rfl rfl (by kernel_rfl) (by kernel_rfl) (by kernel_rfl) (by kernel_rfl) (fun _ _ _ h => h) (by kernel_rfl) ?_ (by assumption) ?_; rotate_left 1; (focus (intro wS hSw; (try dsimp only at hSw); go_simp <;> with_reducible rfl)); simp only [List.set_cons_zero, List.set_cons_succ])
    focus (refine wpAnyH_take2 (i := 38) (fuel := 14) (L := (true :: true :: true :: true :: true :: true :: true :: true :: true :: true :: true :: true :: true :: true :: true :: true :: true :: true :: true :: true :: true :: true :: true :: true :: true :: true :: true :: true :: true :: true :: true :: true :: true :: true :: true :: true :: true :: true :: true :: false :: false :: false :: false :: false :: false :: false :: false :: false :: false :: false :: false :: false :: false :: []).toArray) (v := ?_) rfl rfl (by kernel_rfl) (by kernel_rfl) (by kernel_rfl) (by kernel_rfl) (fun _ _ _ h => h) (by kernel_rfl) ?_ (by assumption) ?_; rotate_left 1; (focus (intro wS hSw; (try dsimp only at hSw); go_simp <;> with_reducible rfl)); simp only [List.set_cons_zero, List.set_cons_succ])
    refine wpAnyH_next (i := 39) (fuel := 13) (L := (true :: true :: true :: true :: true :: true :: true :: true :: true :: true :: true :: true :: true :: true :: true :: true :: true :: true :: true :: true :: true :: true :: true :: true :: true :: true :: true :: true :: true :: true :: true :: true :: true :: true :: true :: true :: true :: true :: true :: true :: false :: false :: false :: false :: false :: false :: false :: false :: false :: false :: false :: false :: false :: []).toArray) rfl (by kernel_rfl) (by kernel_rfl) (by kernel_rfl) (fun K hK => ?_)
    focus (go_simp; go_at_call 47; refine (events_any _).mono ?_; rintro e w24 ⟨rfl, hev, hb24⟩; have HEV := Lib.hid hev; clear hev)
    refine hK.out _ _ (⟨bel_tr hHeld.1 hb24, cell_stays hb24 hHeld.2.1, cell_stays hb24 hHeld.2.2.1, cell_stays hb24 hHeld.2.2.2.1, cell_stays hb24 hHeld.2.2.2.2.1, cell_stays hb24 hHeld.2.2.2.2.2.1, cell_stays hb24 hHeld.2.2.2.2.2.2⟩) (fun hHeld => ?_)
    clear hK K
    refine wpAnyH_next (i := 40) (fuel := 12) (L := (true :: true :: true :: true :: true :: true :: true :: true :: true :: true :: true :: true :: true :: true :: true :: true :: true :: true :: true :: true :: true :: true :: true :: true :: true :: true :: true :: true :: true :: true :: true :: true :: true :: true :: true :: true :: true :: true :: true :: true :: true :: false :: false :: false :: false :: false :: false :: false :: false :: false :: false :: false :: false :: []).toArray) rfl (by kernel_rfl) (by kernel_rfl) (by kernel_rfl) (fun K hK => ?_)
    go_simp
    refine hK.out _ _ (hHeld) (fun hHeld => ?_)
    clear hK K
    refine wpAnyH_next (i := 41) (fuel := 11) (L := (true :: true :: true :: true :: true :: true :: true :: true :: true :: true :: true :: true :: true :: true :: true :: true :: true :: true :: true :: true :: true :: true :: true :: true :: true :: true :: true :: true :: true :: true :: true :: true :: true :: true :: true :: true :: true :: true :: true :: true :: true :: true :: false :: false :: false :: false :: false :: false :: false :: false :: false :: false :: false :: []).toArray) rfl (by kernel_rfl) (by kernel_rfl) (by kernel_rfl) (fun K hK => ?_)
    focus (go_simp; go_at_call 48; refine (resame_eq _ _ _ _ (HU0.out.stays evtAt_stays hHeld.1) (ev_last HEV.out _ (by decide) (by decide))).mono ?_; rintro e w25 ⟨rfl, hb25⟩)
    refine hK.out _ _ (⟨bel_tr hHeld.1 hb25, cell_stays hb25 hHeld.2.1, cell_stays hb25 hHeld.2.2.1, cell_stays hb25 hHeld.2.2.2.1, cell_stays hb25 hHeld.2.2.2.2.1, cell_stays hb25 hHeld.2.2.2.2.2.1, cell_stays hb25 hHeld.2.2.2.2.2.2⟩) (fun hHeld => ?_)
    clear hK K
    focus (refine wpAnyH_take2 (i := 42) (fuel := 10) (L := (true :: true :: true :: true :: true :: true :: true :: true :: true :: true :: true :: true :: true :: true :: true :: true :: true :: true :: true :: true :: true :: true :: true :: true :: true :: true :: true :: true :: true :: true :: true :: true :: true :: true :: true :: true :: true :: true :: true :: true :: true :: true :: true :: false :: false :: false :: false :: false :: false :: false :: false :: false :: false :: []).toArray) (v := ?_) rfl rfl (by kernel_rfl) (by kernel_rfl) (by kernel_rfl) (by kernel_rfl) (fun _ _ _ h => h) (by kernel_rfl) ?_ (by assumption) ?_; rotate_left 1; (focus (intro wS hSw; (try dsimp only at hSw); go_simp <;> with_reducible rfl)); simp only [List.set_cons_zero, List.set_cons_succ])
    focus (refine wpAnyH_take2 (i := 43) (fuel := 9) (L := (true :: true :: true :: true :: true :: true :: true :: true :: true :: true :: true :: true :: true :: true :: true :: true :: true :: true :: true :: true :: true :: true :: true :: true :: true :: true :: true :: true :: true :: true :: true :: true :: true :: true :: true :: true :: true :: true :: true :: true :: true :: true :: true :: true :: false :: false :: false :: false :: false :: false :: false :: false :: false :: []).toArray) (v := ?_) rfl rfl (by kernel_rfl) (by kernel_rfl) (by kernel_rfl) (by kernel_rfl) (fun _ _ _ h => h) (by kernel_rfl) ?_ (by assumption) ?_; rotate_left 1; (focus (intro wS hSw; (try dsimp only at hSw); go_simp <;> with_reducible rfl)); simp only [List.set_cons_zero, List.set_cons_succ])
    focus (refine wpAnyH_take2 (i := 44) (fuel := 8) (L := (true :: true :: true :: true :: true :: true :: true :: true :: true :: true :: true :: true :: true :: true :: true :: true :: true :: true :: true :: true :: true :: true :: true :: true :: true :: true :: true :: true :: true :: true :: true :: true :: true :: true :: true :: true :: true :: true :: true :: true :: true :: true :: true :: true :: true :: false :: false :: false :: false :: false :: false :: false :: false :: []).toArray) (v := ?_) rfl rfl (by kernel_rfl) (by kernel_rfl) (by kernel_rfl) (by kernel_rfl) (fun _ _ _ h => h) (by kernel_rfl) ?_ (by assumption) ?_; rotate_left 1; (focus (intro wS hSw; (try dsimp only at hSw); go_simp <;> with_reducible rfl)); simp only [List.set_cons_zero, List.set_cons_succ])
    focus (refine wpAnyH_take2 (i := 45) (fuel := 7) (L := (true :: true :: true :: true :: true :: true :: true :: true :: true :: true :: true :: true :: true :: true :: true :: true :: true :: true :: true :: true :: true :: true :: true :: true :: true :: true :: true :: true :: true :: true :: true :: true :: true :: true :: true :: true :: true :: true :: true :: true :: true :: true :: true :: true :: true :: true :: false :: false :: false :: false :: false :: false :: false :: []).toArray) (v := ?_) rfl rfl (by kernel_rfl) (by kernel_rfl) (by kernel_rfl) (by kernel_rfl) (fun _ _ _ h => h) (by kernel_rfl) ?_ (by assumption) ?_; rotate_left 1; (focus (intro wS hSw; (try dsimp only at hSw); go_simp <;> with_reducible rfl)); simp only [List.set_cons_zero, List.set_cons_succ])
    focus (refine wpAnyH_take2 (i := 46) (fuel := 6) (L := (true :: true :: true :: true :: true :: true :: true :: true :: true :: true :: true :: true :: true :: true :: true :: true :: true :: true :: true :: true :: true :: true :: true :: true :: true :: true :: true :: true :: true :: true :: true :: true :: true :: true :: true :: true :: true :: true :: true :: true :: true :: true :: true :: true :: true :: true :: true :: false :: false :: false :: false :: false :: false :: []).toArray) (v := ?_) rfl rfl (by kernel_rfl) (by kernel_rfl) (by kernel_rfl) (by kernel_rfl) (fun _ _ _ h => h) (by kernel_rfl) ?_ (by assumption) ?_; rotate_left 1; (focus (intro wS hSw; (try dsimp only at hSw); go_simp <;> with_reducible rfl)); simp only [List.set_cons_zero, List.set_cons_succ])
    focus (refine wpAnyH_take2 (i := 47) (fuel := 5) (L := (true :: true :: true :: true :: true :: true :: true :: true :: true :: true :: true :: true :: true :: true :: true :: true :: true :: true :: true :: true :: true :: true :: true :: true :: true :: true :: true :: true :: true :: true :: true :: true :: true :: true :: true :: true :: true :: true :: true :: true :: true :: true :: true :: true :: true :: true :: true :: true :: false :: false :: false :: false :: false :: []).toArray) (v := ?_) rfl rfl (by kernel_rfl) (by kernel_rfl) (by kernel_rfl) (by kernel_rfl) (fun _ _ _ h => h) (by kernel_rfl) ?_ (by assumption) ?_; rotate_left 1; (focus (intro wS hSw; (try dsimp only at hSw); go_simp <;> with_reducible rfl)); simp only [List.set_cons_zero, List.set_cons_succ])
    refine wpAnyH_next (i := 48) (fuel := 4) (L := (true :: true :: true :: true :: true :: true :: true :: true :: true :: true :: true :: true :: true :: true :: true :: true :: true :: true :: true :: true :: true :: true :: true :: true :: true :: true :: true :: true :: true :: true :: true :: true :: true :: true :: true :: true :: true :: true :: true :: true :: true :: true :: true :: true :: true :: true :: true :: true :: true :: false :: false :: false :: false :: []).toArray) rfl (by kernel_rfl) (by kernel_rfl) (by kernel_rfl) (fun K hK => ?_)
    focus (go_simp; go_at_call 47; refine (events_any _).mono ?_; rintro e w26 ⟨rfl, hev, hb26⟩; have HEV2 := Lib.hid hev; clear hev)
    refine hK.out _ _ (⟨bel_tr hHeld.1 hb26, cell_stays hb26 hHeld.2.1, cell_stays hb26 hHeld.2.2.1, cell_stays hb26 hHeld.2.2.2.1, cell_stays hb26 hHeld.2.2.2.2.1, cell_stays hb26 hHeld.2.2.2.2.2.1, cell_stays hb26 hHeld.2.2.2.2.2.2⟩) (fun hHeld => ?_)
    clear hK K
    refine wpAnyH_next (i := 49) (fuel := 3) (L := (true :: true :: true :: true :: true :: true :: true :: true :: true :: true :: true :: true :: true :: true :: true :: true :: true :: true :: true :: true :: true :: true :: true :: true :: true :: true :: true :: true :: true :: true :: true :: true :: true :: true :: true :: true :: true :: true :: true :: true :: true :: true :: true :: true :: true :: true :: true :: true :: true :: true :: false :: false :: false :: []).toArray) rfl (by kernel_rfl) (by kernel_rfl) (by kernel_rfl) (fun K hK => ?_)
    go_simp
    refine hK.out _ _ (hHeld) (fun hHeld => ?_)
    clear hK K
    refine wpAnyH_next (i := 50) (fuel := 2) (L := (true :: true :: true :: true :: true :: true :: true :: true :: true :: true :: true :: true :: true :: true :: true :: true :: true :: true :: true :: true :: true :: true :: true :: true :: true :: true :: true :: true :: true :: true :: true :: true :: true :: true :: true :: true :: true :: true :: true :: true :: true :: true :: true :: true :: true :: true :: true :: true :: true :: true :: true :: false :: false :: []).toArray) rfl (by kernel_rfl) (by kernel_rfl) (by kernel_rfl) (fun K hK => ?_)
    focus (go_simp; go_at_call 48; refine (resame_eq _ _ _ _ (HU1.out.stays evtAt_stays hHeld.1) (ev_first HEV2.out _ (by decide) (by decide))).mono ?_; rintro e w27 ⟨rfl, hb27⟩)
    refine hK.out _ _ (⟨bel_tr hHeld.1 hb27, cell_stays hb27 hHeld.2.1, cell_stays hb27 hHeld.2.2.1, cell_stays hb27 hHeld.2.2.2.1, cell_stays hb27 hHeld.2.2.2.2.1, cell_stays hb27 hHeld.2.2.2.2.2.1, cell_stays hb27 hHeld.2.2.2.2.2.2⟩) (fun hHeld => ?_)
    clear hK K
    focus (refine wpAnyH_take2 (i := 51) (fuel := 1) (L := (true :: true :: true :: true :: true :: true :: true :: true :: true :: true :: true :: true :: true :: true :: true :: true :: true :: true :: true :: true :: true :: true :: true :: true :: true :: true :: true :: true :: true :: true :: true :: true :: true :: true :: true :: true :: true :: true :: true :: true :: true :: true :: true :: true :: true :: true :: true :: true :: true :: true :: true :: true :: false :: []).toArray) (v := ?_) rfl rfl (by kernel_rfl) (by kernel_rfl) (by kernel_rfl) (by kernel_rfl) (fun _ _ _ h => h) (by kernel_rfl) ?_ (by assumption) ?_; rotate_left 1; (focus (intro wS hSw; (try dsimp only at hSw); go_simp <;> with_reducible rfl)); simp only [List.set_cons_zero, List.set_cons_succ])
    focus (refine wpAnyH_take2 (i := 52) (fuel := 0) (L := (true :: true :: true :: true :: true :: true :: true :: true :: true :: true :: true :: true :: true :: true :: true :: true :: true :: true :: true :: true :: true :: true :: true :: true :: true :: true :: true :: true :: true :: true :: true :: true :: true :: true :: true :: true :: true :: true :: true :: true :: true :: true :: true :: true :: true :: true :: true :: true :: true :: true :: true :: true :: true :: []).toArray) (v := ?_) rfl rfl (by kernel_rfl) (by kernel_rfl) (by kernel_rfl) (by kernel_rfl) (fun _ _ _ h => h) (by kernel_rfl) ?_ (by assumption) ?_; rotate_left 1; (focus (intro wS hSw; (try dsimp only at hSw); go_simp <;> with_reducible rfl)); simp only [List.set_cons_zero])
    refine wpAnyH_done (by kernel_rfl) (NoPanic.normal ?_) _
    rotate_left 1
    go_wp2_with fail
    go_ret
    have htx : (exText.toList == [121, 64, 51, 47, 48, 47, 49, 32, 120, 64, 53, 47, 48, 47, 50]) = true := by kernel_rfl
    rw [htx]
    exact ⟨rfl, bel_tr HB19.out hHeld.1⟩
end Go.Proofs.YtclpglgigpjfoaaGreatDoor
