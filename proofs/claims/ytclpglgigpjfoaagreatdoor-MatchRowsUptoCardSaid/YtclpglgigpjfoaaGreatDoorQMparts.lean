/- match.parts: an iterator over the texts of the bindings. -/
import Derived.Test.YtclpglgigpjfoaaGreatDoorQMlex
import Derived.Test.YtclpglgigpjfoaaGreatDoorQLdata
import Derived.Test.YtclpglgigpjfoaaGreatDoorQMev
import Derived.Test.YtclpglgigpjfoaaGreatDoorQShelfT
import Derived.RangeFuncBox
import Derived.Lib.ItoaLen
import Derived.Laws.Concat
import Derived.RangeFuncLeaves
import Derived.Shelf.Abstract
import Derived.WalkKit
import Derived.TacticsInMore
import Derived.LoopIn
import Derived.BigFrameIn
import Derived.BigGuardIn
import Derived.BigGuardPartIn
import Derived.BigRegionIn
namespace Go.Proofs.YtclpglgigpjfoaaGreatDoor
open Go.RowKit Go.Lib

/-- a variable of a query -/
structure Nv where
  name : ByteArray
  ty : Int
def NvAt (w : World) (b p : Nat) (x : Nv) : Prop := w.cell? ⟨b, p, none⟩ = some (.string x.name) ∧ w.cell? ⟨b, p + 1, none⟩ = some (.int .i64 x.ty)
theorem nvAt_stays : Stays NvAt := fun _ _ _ _ _ hb ⟨h0, h1⟩ => ⟨cell_stays hb h0, cell_stays hb h1⟩
abbrev IsNvs (w : World) (v : Value) (l : List Nv) : Prop := Sl NvAt 2 w v l
abbrev slash : ByteArray := ⟨#[47]⟩
abbrev atSign : ByteArray := ⟨#[64]⟩
def itoaB (n : Int) : ByteArray := ⟨(itoa n).toArray⟩
def textB (nm : ByteArray) (b : Bnd) : ByteArray := nm ++ atSign ++ itoaB b.t ++ slash ++ itoaB b.s ++ slash ++ itoaB b.n
def noText : ByteArray := ⟨#[]⟩
def zeroNv : Nv := ⟨noText, 0⟩
def nvOf (vs : List Nv) (b : Bnd) : Nv := vs.getD b.v.toNat zeroNv
/-- the text of a binding, or an error -/
def partE (vs : List Nv) (b : Bnd) : ByteArray × Int :=
  if (vs.length : Int) ≤ b.v then (noText, 10) else if nameE (nvOf vs b).name.data.toList ≠ 0 then (noText, 8) else (textB (nvOf vs b).name b, 0)
def encS (x : ByteArray × Int) : Array Value := #[.string x.1, .int .i64 x.2]
/-- what the rounds keep: what lay, and the variables' box -/
def KeepP (n C : Nat) (v : Value) (W W' : World) : Prop := Below n W W' ∧ (W.cell? ⟨C, 0, none⟩ = some v → W'.cell? ⟨C, 0, none⟩ = some v)
theorem keepP_t {n C : Nat} {v : Value} {X Y Z : World} (h : KeepP n C v X Y) (k : KeepP n C v Y Z) : KeepP n C v X Z := ⟨h.1.trans k.1, fun e => k.2 (h.2 e)⟩
theorem keepP_b {n C : Nat} {v : Value} {w : World} (hn : n ≤ w.heap.size) (W : World) (l : Nat) (o o' : Obj) (hl : w.heap.size ≤ l) (h : W.heap[l]? = some o) (ho : o.isCells = false) (hw : o.isWalk = false) : KeepP n C v W (W.putObj l o') :=
  ⟨belowK_b hn W l o o' hl h ho hw, fun e => cell_kept e (grownBy_putObj' W l o') (fun r er => by cases er; exact ⟨o, h, ho⟩)⟩
theorem abides_bel {β : Type} {J : β → World → Prop} {B : Nat} (hJ : AbidesFrom B J) {s : β} {W W' : World} (h : J s W) (hb : Below W.heap.size W W') : J s W' :=
  hJ s W W' none h ⟨hb.os, hb.tape, hb.output, hb.size, fun k hk _ => hb.block k hk⟩ (fun r e => by cases e)
theorem take_snoc {α : Type} {l : List α} {k : Nat} {x : α} (h : l[k]? = some x) : l.take (k + 1) = l.take k ++ [x] := by
  rw [List.take_add_one, h]; rfl

theorem bel_drewN (w : World) : ∀ q : Nat, Below w.heap.size w (w.drewN q) := fun _q => ⟨rfl, rfl, rfl, Nat.le_refl _, fun _ _ => rfl⟩
theorem bel_grow (w : World) (os : Array Obj) : Below w.heap.size w (Go.Sort.grow w os) := by
  refine ⟨rfl, rfl, rfl, ?_, fun k hk => ?_⟩
  · simp [Go.Sort.grow]
  · simp only [Go.Sort.grow]
    rw [Array.getElem?_append_left hk]
theorem cat_ex (P : Program) (a b : ByteArray) (m : Nat) (ha : a.size ≤ m) (hb : b.size ≤ 100) (hm : m ≤ 2000000) : ∃ s, s = a ++ b ∧ s.size ≤ m + 100 ∧ ∀ W, (Op.stringOp .add a b).run P W = .ok (.string s) W :=
  ⟨a ++ b, rfl, by rw [ByteArray.size_append]; omega, fun W => run_string_add_sum W a b (by omega)⟩
theorem itoaB_size (n : Int) (h0 : -9223372036854775808 ≤ n) (h1 : n ≤ 9223372036854775807) : (itoaB n).size ≤ 100 := by
  have := itoa_length_le n h0 h1
  show ((itoa n).toArray).size ≤ 100
  simp only [List.size_toArray]
  omega
theorem meas1 {k m : Nat} (h : k < m) : m - (((k + 1 : Nat) : Int)).toNat < m - ((k : Int)).toNat := by omega
theorem upon_yield {n : Nat} {P : Program} {o : Oper} {a : Act} {K : Act → World → Prop} {Q : Exit → Act → World → Prop} {l : Nat} {args : Array Value} {W : World} {X Y : World → Prop}
    (hy : YieldAt Fence.wide (n - 1) P l args W (fun e W' => (e = .returned (.bool true) ∧ X W') ∨ (e = .returned (.bool false) ∧ Y W')))
    (h1 : ∀ W', X W' → K (a.put o.dst (.bool true)) W') (h2 : ∀ W', Y W' → K (a.put o.dst (.bool false)) W') : Oper.uponIn Fence.wide n P o a K Q ((Instr.yield l args).run P W) := by
  obtain ⟨fn, tmps, assign, body, hy, hR⟩ := hy
  rw [hy]
  refine ⟨fun h => by simp [Fence.wide] at h, hR.mono ?_⟩
  rintro e W' (⟨rfl, h⟩ | ⟨rfl, h⟩)
  · exact h1 W' h
  · exact h2 W' h
theorem yieldAt_mono {F : Fence} {m : Nat} {P : Program} {l : Nat} {args : Array Value} {W : World} {R R' : Ending → World → Prop} (h : YieldAt F m P l args W R) (hr : ∀ e w', R e w' → R' e w') : YieldAt F m P l args W R' := by
  obtain ⟨fn, tmps, assign, body, hy, hR⟩ := h
  exact ⟨fn, tmps, assign, body, hy, hR.mono hr⟩

set_option maxRecDepth 100000 in
set_option maxHeartbeats 4000000 in
theorem parts1_any (n : Nat) (bs : List Bnd) (vs : List Nv) (w0 w : World) (A : Option Addr) (c : Nat) (vv : Value) (B C : Nat) (hb : Below w0.heap.size w0 w) (hl : IsBnds w0 (.slice A bs.length c) bs) (hv : IsNvs w0 vv vs) (hx : Lx w0)
    (hok : ∀ b ∈ bs, bndOk b = true) (hnm : ∀ v ∈ vs, v.name.data.toList.length ≤ 1048576)
    (hB : w.cell? ⟨B, 0, none⟩ = some (.slice A bs.length c)) (hC : w.cell? ⟨C, 0, none⟩ = some vv) :
    SeqStopsK Fence.wide n Tryz.prog 92 #[.pointer (some ⟨B, 0, none⟩), .pointer (some ⟨C, 0, none⟩)] encS (KeepP w0.heap.size C vv) (fun ys => ys = bs.map (partE vs)) (fun pre => pre <+: bs.map (partE vs)) bs.length w := by
  intro l J Jx W hW hJ hJx hY h0
  replace hB := cell_stays hW hB
  replace hC := cell_stays hW hC
  replace hb : Below w0.heap.size w0 W := bel_tr hb hW
  obtain ⟨A', c', hA, h1, h2, hat⟩ := hl
  have h3 : A = A' ∧ c = c' := by simpa using hA
  obtain ⟨rfl, rfl⟩ := h3
  obtain ⟨Av, cv, rfl, v1, v2, vat⟩ := hv
  have hn := len_i64 h1 h2
  have hvn := len_i64 v1 v2
  have HAT := Lib.hid hat
  have HVT := Lib.hid vat
  have HOK := Lib.hid hok
  have HNM := Lib.hid hnm
  have HY := Lib.hid hY
  have HJ := Lib.hid hJ
  have HX := Lib.hid hx
  have HB := Lib.hid hb
  have H0 := Lib.hid h0
  clear hat vat hok hnm hY hJ hJx hx hb h1 h2 v1 v2 hA hW h0
  refine callsIn_wide.2 ?_
  go_enter Tryz.func92, Tryz.ntmps92
  refine (wpIn_wide (n := n)).1 ?_
  gi_wp2
  gi_loopw [11] (fun i wr => ∃ k : Nat, k ≤ bs.length ∧ i = .int .i64 k ∧ Hid (J ((bs.map (partE vs)).take k) wr ∧ wr.cell? ⟨C, 0, none⟩ = some (.slice Av vs.length cv) ∧ Below w0.heap.size w0 wr ∧ W.heap.size ≤ wr.heap.size)) (fun i _ => bs.length - (RowKit.intOf i).toNat)
  case atStart => exact ⟨0, Nat.zero_le _, rfl, Lib.hid ⟨by simpa using H0.out, hC, HB.out, Nat.le_refl _⟩⟩
  case round =>
    obtain ⟨k, hk, rfl, hi⟩ := hrel
    by_cases hlt : k < bs.length
    · have hk' : (k : Int) < (bs.length : Int) := by omega
      obtain ⟨b, o, rfl, c0, c1, c2, c3⟩ := HAT.out k bs[k] (List.getElem?_eq_getElem hlt)
      have hbr := hi.out.2.2.1
      replace c0 := cell_stays hbr c0
      replace c1 := cell_stays hbr c1
      replace c2 := cell_stays hbr c2
      replace c3 := cell_stays hbr c3
      have cC := hi.out.2.1
      have hbl : b < wr.heap.size := World.block_lt_of_cell? wr ⟨b, _, none⟩ c0
      have hCl : C < wr.heap.size := World.block_lt_of_cell? wr ⟨C, _, none⟩ cC
      have hnb : b ≠ wr.heap.size := by omega
      have hnb' : wr.heap.size ≠ b := by omega
      have hnC : C ≠ wr.heap.size := by omega
      have hget := Lib.hid (List.getElem?_eq_getElem hlt)
      have hmem := HOK.out _ (List.getElem_mem hlt)
      obtain ⟨x, hx⟩ : ∃ x, x = bs[k] := ⟨_, rfl⟩
      rw [← hx] at hget c0 c1 c2 c3 hmem
      clear hx
      have HBR := Lib.hid hbr
      clear hbr
      have hxv := bndOk_v hmem
      have HR : Hid (∀ (W9 : World) (tx : ByteArray) (er : Int), partE vs x = (tx, er) → Below wr.heap.size wr W9 → YieldAt Fence.wide (n - 1) Tryz.prog l #[.string tx, .int .i64 er] W9 (fun e W' => (e = .returned (.bool true) ∧ (J ((bs.map (partE vs)).take (k + 1)) W' ∧ W'.cell? ⟨C, 0, none⟩ = some (.slice Av vs.length cv) ∧ Below w0.heap.size w0 W' ∧ W.heap.size ≤ W'.heap.size)) ∨ (e = .returned (.bool false) ∧ Jx ((bs.map (partE vs)).take (k + 1)) W'))) := by
        refine Lib.hid fun W9 tx er he hb9 => ?_
        have hj9 := abides_bel HJ.out hi.out.1 hb9
        have hts : (bs.map (partE vs)).take (k + 1) = (bs.map (partE vs)).take k ++ [(tx, er)] := take_snoc (by rw [List.getElem?_map, hget.out, ← he]; rfl)
        have hlen : ((bs.map (partE vs)).take k).length < bs.length := by simp; omega
        refine yieldAt_mono (HY.out _ (tx, er) W9 hj9 hlen) ?_
        rintro e W' (⟨rfl, h1, h2⟩ | ⟨rfl, h1⟩)
        · refine .inl ⟨rfl, by rw [hts]; exact h1, h2.2 (cell_stays hb9 cC), (bel_tr HBR.out hb9).trans h2.1, ?_⟩
          have e1 := hb9.size
          have e2 := h2.1.size
          have e3 := hi.out.2.2.2
          omega
        · exact .inr ⟨rfl, by rw [hts]; exact h1⟩
      by_cases hvl : (vs.length : Int) ≤ x.v
      · have HPE : Hid (partE vs x = (noText, 10)) := Lib.hid (if_pos hvl)
        gi_wp2
        refine upon_yield (HR.out _ _ _ HPE.out (by repeat (first | exact Below.refl _ _ | assumption | refine Below.drew ?_ | refine bel_al ?_ _ | refine bel_set ?_ (by omega) _ | refine bel_tr ?_ (by assumption)))) ?_ ?_
        · intro W5 h5
          have H5 := Lib.hid h5
          clear h5
          gi_wp2
          go_roundw
          case rel => exact ⟨k + 1, by omega, rfl, H5⟩
          case measure => exact meas1 hlt
        · intro W5 h5
          have H5 := Lib.hid h5
          clear h5
          gi_wp2
          refine bodyPost_ret (results_none rfl _ _ _) rfl ?_
          exact ⟨⟨_, rfl⟩, .inr ⟨_, List.take_prefix _ _, H5.out⟩⟩
      · have HVL := Lib.hid hvl
        obtain ⟨j, hj⟩ : ∃ j : Nat, x.v = (j : Int) := ⟨x.v.toNat, by omega⟩
        rw [hj] at hvl
        have hjl : j < vs.length := by omega
        have hjl' : (j : Int) < (vs.length : Int) := by omega
        obtain ⟨bv, ov, rfl, d0, d1⟩ := HVT.out j vs[j] (List.getElem?_eq_getElem hjl)
        replace d0 := cell_stays HBR.out d0
        clear d1
        have hmv := List.getElem_mem hjl
        have hvo : nvOf vs x = vs[j] := by unfold nvOf; rw [hj]; simp [List.getD, List.getElem?_eq_getElem hjl]
        have hnml := HNM.out _ hmv
        obtain ⟨y, hy⟩ : ∃ y, y = vs[j] := ⟨_, rfl⟩
        rw [← hy] at d0 hvo hnml
        clear hy hmv
        have hLx : Lx wr := (HX.out.stays HBR.out)
        obtain ⟨er, her⟩ : ∃ er, nameE y.name.data.toList = er := ⟨_, rfl⟩
        have hnme := fun W (h : Lx W) => name_any y.name.data.toList W h hnml
        rw [her] at hnme
        have hbs : (⟨⟨y.name.data.toList⟩⟩ : ByteArray) = y.name := rfl
        rw [hbs] at hnme
        have HNE := Lib.hid hnme
        have HLx := Lib.hid hLx
        have HVO := Lib.hid hvo
        have HER := Lib.hid her
        have hvb : bv < wr.heap.size := World.block_lt_of_cell? wr ⟨bv, _, none⟩ d0
        have hne : bv ≠ wr.heap.size := by omega
        have hne' : wr.heap.size ≠ bv := fun h => hne h.symm
        clear hnme hLx hvo her hbs
        rw [hj] at c0 hxv
        gi_wp2
        refine ⟨trivial, fun h => by simp [Fence.wide] at h, callsIn_wide.2 ?_⟩
        refine calls_gen fun W9 e9 => ?_
        have y0 : W9.cell? ⟨wr.heap.size, 0, none⟩ = some (.int .i64 (j : Int)) := by rw [e9]; go_simp
        have y1 : W9.cell? ⟨wr.heap.size, 1, none⟩ = some (.int .i64 x.t) := by rw [e9]; go_simp
        have y2 : W9.cell? ⟨wr.heap.size, 2, none⟩ = some (.int .i64 x.s) := by rw [e9]; go_simp
        have y3 : W9.cell? ⟨wr.heap.size, 3, none⟩ = some (.int .i64 x.n) := by rw [e9]; go_simp
        have hb9 : Below wr.heap.size wr W9 := by rw [e9]; exact (by repeat (first | exact Below.refl _ _ | assumption | refine Below.drew ?_ | refine bel_al ?_ _ | refine bel_set ?_ (by omega) _ | refine bel_tr ?_ (by assumption)))
        clear e9
        refine (HNE.out _ (HLx.out.stays hb9)).mono ?_
        rintro e W4 ⟨rfl, hb4⟩
        have hb94 := bel_tr hb9 hb4
        replace y0 := cell_stays hb4 y0
        replace y1 := cell_stays hb4 y1
        replace y2 := cell_stays hb4 y2
        replace y3 := cell_stays hb4 y3
        replace d0 := cell_stays hb94 d0
        have cC4 := cell_stays hb94 cC
        have HB4 := Lib.hid hb94
        clear hb9 hb4 hb94 c0 c1 c2 c3 hnb hnb' hbl hne hne' hvb
        by_cases her0 : er = 0
        · have HPE : Hid (partE vs x = (textB y.name x, 0)) := Lib.hid (by unfold partE; rw [if_neg (Int.not_le.2 HVL.out), HVO.out, HER.out, her0]; simp)
          subst her0
          have hplx : (0 ≤ x.t ∧ x.t ≤ 1099511627776) ∧ (0 ≤ x.s ∧ x.s ≤ 7) ∧ 0 ≤ x.n ∧ x.n ≤ 1099511627776 := by
            unfold bndOk plB inI at hmem
            simp only [Bool.and_eq_true, decide_eq_true_eq] at hmem
            omega
          have HIT : Hid (∀ z : Int, -9223372036854775808 ≤ z → z ≤ 9223372036854775807 → ∀ W, Below W4.heap.size W4 W → Calls Tryz.prog 94 #[.int .i64 z] W fun e w' => e = .returned (.string (itoaB z)) ∧ Below W.heap.size W w') := by
            refine Lib.hid fun z z0 z1 W hW => ((Tryz.strconv_Itoa z z0 z1 W ((HLx.out.stays (bel_tr HB4.out hW)).1)).mono ?_)
            rintro e w' ⟨rfl, k, os, rfl⟩
            exact ⟨rfl, bel_tr (bel_drewN W k) (bel_grow _ os)⟩
          have i1 := Lib.hid (HIT.out x.t (by omega) (by omega))
          have i2 := Lib.hid (HIT.out x.s (by omega) (by omega))
          have i3 := Lib.hid (HIT.out x.n (by omega) (by omega))
          have q1 := itoaB_size x.t (by omega) (by omega)
          have q2 := itoaB_size x.s (by omega) (by omega)
          have q3 := itoaB_size x.n (by omega) (by omega)
          have q0 : y.name.size ≤ 1048576 := by have := hnml; simpa using this
          obtain ⟨s1, a1, b1, r1⟩ := cat_ex Tryz.prog y.name ⟨#[64]⟩ 1048576 q0 (by decide) (by decide)
          obtain ⟨s2, a2, b2, r2⟩ := cat_ex Tryz.prog s1 (itoaB x.t) _ b1 q1 (by decide)
          obtain ⟨s3, a3, b3, r3⟩ := cat_ex Tryz.prog s2 ⟨#[47]⟩ _ b2 (by decide) (by decide)
          obtain ⟨s4, a4, b4, r4⟩ := cat_ex Tryz.prog s3 (itoaB x.s) _ b3 q2 (by decide)
          obtain ⟨s5, a5, b5, r5⟩ := cat_ex Tryz.prog s4 ⟨#[47]⟩ _ b4 (by decide) (by decide)
          obtain ⟨s6, a6, b6, r6⟩ := cat_ex Tryz.prog s5 (itoaB x.n) _ b5 q3 (by decide)
          have hs6 : textB y.name x = s6 := by rw [a6, a5, a4, a3, a2, a1]; rfl
          rw [hs6] at HPE
          clear hmem hplx hnml q0 q1 q2 q3 a1 a2 a3 a4 a5 a6 b1 b2 b3 b4 b5 b6 hs6
          gi_wp2
          refine wpIn_wide.2 ?_
          refine wp_region_F (fun W => W.cell? ⟨C, 0, none⟩ = some (.slice (some ⟨bv, ov, none⟩) vs.length cv) ∧ W.cell? ⟨bv, ov + j * 2, none⟩ = some (.string y.name) ∧ W.cell? ⟨wr.heap.size, 0, none⟩ = some (.int .i64 (j : Int)) ∧ W.cell? ⟨wr.heap.size, 1, none⟩ = some (.int .i64 x.t) ∧ W.cell? ⟨wr.heap.size, 2, none⟩ = some (.int .i64 x.s) ∧ W.cell? ⟨wr.heap.size, 3, none⟩ = some (.int .i64 x.n)) (by repeat (first | exact grows_cell _ _ _ | exact grows_true | refine grows_and ?_ ?_)) (by kernel_rfl) (by kernel_rfl) ?hF ?_; (case hF => (first | exact ⟨‹_›, ‹_›⟩ | (go_simp; done) | (simp [*]; done) | (repeat' (first | (refine And.intro ?_ ?_) | (go_simp; done) | exact cell_stays (bel_al (Below.refl _ _) _) (by assumption) | assumption)))); intro hne hxx; have hG : Hid (Grows (fun W => W.cell? ⟨C, 0, none⟩ = some (.slice (some ⟨bv, ov, none⟩) vs.length cv) ∧ W.cell? ⟨bv, ov + j * 2, none⟩ = some (.string y.name) ∧ W.cell? ⟨wr.heap.size, 0, none⟩ = some (.int .i64 (j : Int)) ∧ W.cell? ⟨wr.heap.size, 1, none⟩ = some (.int .i64 x.t) ∧ W.cell? ⟨wr.heap.size, 2, none⟩ = some (.int .i64 x.s) ∧ W.cell? ⟨wr.heap.size, 3, none⟩ = some (.int .i64 x.n))) := (by repeat (first | exact grows_cell _ _ _ | exact grows_true | refine grows_and ?_ ?_)); (repeat (go_big_quiet_step ((go_at_call 94; first | exact cls_callB hG (fun W hW => i1.out W hW) | exact cls_callB hG (fun W hW => i2.out W hW) | exact cls_callB hG (fun W hW => i3.out W hW))))); clear hG hxx hne; refine wpQuiet_nil ?_; rintro wq ⟨⟨w', hb', hF'⟩, rfl⟩
          have HB5 := Lib.hid (bel_tr HB4.out hb')
          clear hF'
          gi_wp2
          refine upon_yield (HR.out _ _ _ HPE.out HB5.out) ?_ ?_
          · intro W5 h5
            have H5 := Lib.hid h5
            clear h5
            gi_wp2
            go_roundw
            case rel => exact ⟨k + 1, by omega, rfl, H5⟩
            case measure => exact meas1 hlt
          · intro W5 h5
            have H5 := Lib.hid h5
            clear h5
            gi_wp2
            refine bodyPost_ret (results_none rfl _ _ _) rfl ?_
            exact ⟨⟨_, rfl⟩, .inr ⟨_, List.take_prefix _ _, H5.out⟩⟩
        · have HPE : Hid (partE vs x = (noText, 8)) := Lib.hid (by unfold partE; rw [if_neg (Int.not_le.2 HVL.out), HVO.out, HER.out]; simp [her0])
          gi_wp2
          refine upon_yield (HR.out _ _ _ HPE.out HB4.out) ?_ ?_
          · intro W5 h5
            have H5 := Lib.hid h5
            clear h5
            gi_wp2
            go_roundw
            case rel => exact ⟨k + 1, by omega, rfl, H5⟩
            case measure => exact meas1 hlt
          · intro W5 h5
            have H5 := Lib.hid h5
            clear h5
            gi_wp2
            refine bodyPost_ret (results_none rfl _ _ _) rfl ?_
            exact ⟨⟨_, rfl⟩, .inr ⟨_, List.take_prefix _ _, H5.out⟩⟩
    · obtain rfl : k = bs.length := by omega
      gi_wp2
      go_end0
      exact ⟨⟨_, rfl⟩, .inl ⟨_, rfl, by have := hi.out.1; rwa [List.take_of_length_le (by simp)] at this⟩⟩
end Go.Proofs.YtclpglgigpjfoaaGreatDoor
