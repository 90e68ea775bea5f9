/- match.Format. -/
import Derived.Test.YtclpglgigpjfoaaGreatDoorQMfmtp
import Derived.Test.YtclpglgigpjfoaaGreatDoorQLcmp
import Derived.OwnWalkIn
import Derived.LoopNIn
import Derived.Maps.AppendAt
namespace Go.Proofs.YtclpglgigpjfoaaGreatDoor
open Go.RowKit Go.Lib

attribute [local go_sem] Oper.semAt_some

theorem parts_any (vv v : Value) (hv1 : ∃ A n c, vv = .slice A n c) (hv2 : ∃ A n c, v = .slice A n c) (w : World) : Calls Tryz.prog 70 #[vv, matV v] w fun e W => e = .returned (.func (.func 92) #[] #[.pointer (some ⟨w.heap.size + 1, 0, none⟩), .pointer (some ⟨w.heap.size, 0, none⟩)]) ∧ W = (w.alloc (.cells #[vv] 53)).alloc (.cells #[v] 24) := by
  obtain ⟨A, n, c, rfl⟩ := hv1
  obtain ⟨A', n', c', rfl⟩ := hv2
  unfold matV
  go_enter Tryz.func70, Tryz.ntmps70
  go_wp2
  go_ret
  exact ⟨rfl, rfl⟩
theorem own_bits {W : World} {base e : Nat} {v : Value} {n : Nat} {xs : List Value} (h : W.ownsRow base e 1 v n xs) (hn : 0 < n) : ∃ g cap, v = .slice (some ⟨g, 0, none⟩) n cap ∧ base ≤ g ∧ n ≤ cap ∧ cap ≤ maxLen ∧ g < W.heap.size := by
  rcases h.2 with ⟨_, h0⟩ | ⟨g, cap, cur, rfl, h1, h2, h3, h4, _⟩
  · omega
  · exact ⟨g, cap, rfl, h1, h3, h4, (Array.getElem?_eq_some_iff.1 h2).1⟩
theorem two_set {W : World} {B4 B5 : Nat} {t4 t5 : TypeId} {v4 v5 : Value} (h : B4 ≠ B5) (h4 : Boxed W B4 t4 v4) (h5 : Boxed W B5 t5 v5) (u4 u5 : Value) :
    Boxed ((W.setCell ⟨B4, 0, none⟩ u4).setCell ⟨B5, 0, none⟩ u5) B4 t4 u4 ∧ Boxed ((W.setCell ⟨B4, 0, none⟩ u4).setCell ⟨B5, 0, none⟩ u5) B5 t5 u5 :=
  ⟨(h4.set u4).kept (grownBy_setCell' _ B5 u5) (by simpa using h), (h5.kept (grownBy_setCell' _ B4 u4) (by simpa using h.symm)).set u5⟩
theorem info_str : (Tryz.prog.info? 9).map (fun i => (i.zero, i.size, i.bytes)) = some (some (.string ⟨#[]⟩), 1, 16) := by kernel_rfl
theorem und_strs : Tryz.prog.underlying 125 = some (.slice 9) := by kernel_rfl
/-- how Format is left within its loop -/
def Left (w : World) (B4 B5 : Nat) (c : Code) (pre : List (ByteArray × Int)) (W : World) : Prop :=
  c = .ret ∧ ∃ p tx e, pre = p ++ [(tx, e)] ∧ (∀ x ∈ p, x.2 = 0) ∧ e ≠ 0 ∧ Boxed W B4 9 (.string noText) ∧ Boxed W B5 28 (.int .i64 e) ∧ Below w.heap.size w W
theorem Left.own {w : World} {B4 B5 B : Nat} {c : Code} {pre : List (ByteArray × Int)} {X Y : World} {row : Option Nat} (h4 : B4 < B) (h5 : B5 < B) (hw : w.heap.size ≤ B) (h : Left w B4 B5 c pre X) (hg : X.grownBy Y row)
    (hr : ∀ r, row = some r → B ≤ r ∧ ∃ o : Obj, X.heap[r]? = some o ∧ o.isCells = false) : Left w B4 B5 c pre Y := by
  obtain ⟨hc, p, tx, e, h1, h2, h3, b4, b5, hb⟩ := h
  refine ⟨hc, p, tx, e, h1, h2, h3, b4.kept hg (fun er => ?_), b5.kept hg (fun er => ?_), hb.grown hg hb.size (fun k er => ?_)⟩
  · have := (hr B4 er.symm).1; omega
  · have := (hr B5 er.symm).1; omega
  · have := (hr k er).1; omega
def FmtRet (w : World) (r : ByteArray × Int) (e : Ending) (W : World) : Prop := e = .returned (.tuple #[.string r.1, .int .i64 r.2]) ∧ Below w.heap.size w W

set_option maxRecDepth 100000 in
set_option maxHeartbeats 4000000 in
theorem format_any (vs : List Nv) (bs : List Bnd) (v vv : Value) (w : World) (hl : IsBnds w v bs) (hv : IsNvs w vv vs) (hx : Lx w) (hnm : ∀ v ∈ vs, v.name.data.toList.length ≤ 1048576) :
    Calls Tryz.prog 27 #[vv, matV v] w (FmtRet w (formatR vs bs)) := by
  have HCK := Lib.hid (fun (W : World) (hb : Below w.heap.size w W) => mcheck_any bs v W (hl.stays bndAt_stays hb))
  have HL := Lib.hid hl
  have HV := Lib.hid hv
  have HX := Lib.hid hx
  have HNM := Lib.hid hnm
  obtain ⟨A, c, rfl, -⟩ := hl
  obtain ⟨Av, cv, rfl, -⟩ := hv
  clear hx hnm
  obtain ⟨er, her⟩ : ∃ er, matErr bs = er := ⟨_, rfl⟩
  rw [her] at HCK
  have HER := Lib.hid her
  clear her
  unfold matV
  unfold matV at HCK
  refine (callsIn_wide (n := 5)).1 ?_
  refine callsIn_of_wp_marks Tryz.func27 rfl trivial ?_ rfl
  simp only [Tryz.ntmps27, List.size_toArray, List.length_cons, List.length_nil, Nat.reduceAdd, Nat.reduceSub, Array.replicate_succ, Array.replicate_zero, List.push_toArray, List.append_toArray, List.nil_append, List.cons_append]
  gi_wp2_with fail
  refine ⟨trivial, callsIn_wide.2 ?_⟩
  refine calls_gen fun W9 e9 => ?_
  have hs9 : W9.heap.size = w.heap.size + 3 := by rw [e9]; simp
  have y3 : W9.cell? ⟨w.heap.size, 0, none⟩ = some (.slice A bs.length c) := by rw [e9]; go_simp
  have y4 : W9.heap[w.heap.size + 1]? = some (.cells #[.string ⟨#[]⟩] 9 (0, 0)) := by
    have h := World.alloc_heap_new (w.alloc (.cells #[.slice A bs.length c] 24)) (.cells #[.string ⟨#[]⟩] 9)
    rw [World.size_alloc] at h
    rw [e9]
    exact (Below.heap_alloc _ _ _ (by simp)).trans h
  have y5 : W9.heap[w.heap.size + 1 + 1]? = some (.cells #[.int .i64 0] 28 (0, 0)) := by
    have h := World.alloc_heap_new ((w.alloc (.cells #[.slice A bs.length c] 24)).alloc (.cells #[.string ⟨#[]⟩] 9)) (.cells #[.int .i64 0] 28)
    rw [World.size_alloc, World.size_alloc] at h
    rw [e9]
    exact h
  have hb9 : Below w.heap.size w W9 := by rw [e9]; exact (by repeat (first | exact Below.refl _ _ | assumption | refine Below.drew ?_ | refine bel_al ?_ _ | refine bel_set ?_ (by omega) _ | refine bel_tr ?_ (by assumption)))
  clear e9
  refine (HCK.out _ hb9).mono ?_
  rintro e W1 ⟨rfl, hb1⟩
  have z3 := cell_stays hb1 y3
  have z4 : Boxed W1 (w.heap.size + 1) 9 (.string ⟨#[]⟩) := (hb1.block _ (by omega)).trans y4
  have z5 : Boxed W1 (w.heap.size + 1 + 1) 28 (.int .i64 0) := (hb1.block _ (by omega)).trans y5
  have hs1 : w.heap.size + 3 ≤ W1.heap.size := by have := hb1.size; omega
  have HB1 := Lib.hid (bel_tr hb9 hb1)
  have n0 : w.heap.size ≠ W1.heap.size := by omega
  have n1 : w.heap.size + 1 ≠ W1.heap.size := by omega
  have n2 : w.heap.size + 1 + 1 ≠ W1.heap.size := by omega
  clear hb9 hb1 y3 y4 y5 hs9
  by_cases her0 : er = 0
  · subst her0
    have c4 := z4.cell
    have f4 := z4.frozen
    have z3' : ∀ ob, (W1.alloc ob).cell? ⟨w.heap.size, 0, none⟩ = some (.slice A bs.length c) := fun ob => cell_stays (bel_one W1 ob) z3
    gi_wp2_with fail
    refine ⟨trivial, callsIn_wide.2 ?_⟩
    refine (parts_any _ _ ⟨_, _, _, rfl⟩ ⟨_, _, _, rfl⟩ _).mono ?_
    rintro e W2 ⟨rfl, e2⟩
    have E2 := Lib.hid e2
    clear e2
    gi_wp2_with fail
    try simp only [World.size_alloc]
    have e2 := E2.out
    clear E2
    obtain ⟨B7, h7⟩ : ∃ B7, B7 = W1.heap.size := ⟨_, rfl⟩
    have hs2 : W2.heap.size = B7 + 3 := by rw [e2, h7]; simp
    have y7 : Boxed W2 B7 125 (.slice none 0 0) := by rw [e2, h7]; exact ((Boxed.new W1 _ _).alloc _).alloc _
    have yC : W2.cell? ⟨B7 + 1, 0, none⟩ = some (.slice Av vs.length cv) := by
      have h := Boxed.new (W1.alloc (.cells #[.slice none 0 0] 125)) 53 (.slice Av vs.length cv)
      rw [World.size_alloc] at h
      rw [e2, h7]
      exact (h.alloc _).cell
    have yB : W2.cell? ⟨B7 + 1 + 1, 0, none⟩ = some (.slice A bs.length c) := by
      have h := Boxed.new ((W1.alloc (.cells #[.slice none 0 0] 125)).alloc (.cells #[.slice Av vs.length cv] 53)) 24 (.slice A bs.length c)
      rw [World.size_alloc, World.size_alloc] at h
      rw [e2, h7]
      exact h.cell
    have y4 : Boxed W2 (w.heap.size + 1) 9 (.string ⟨#[]⟩) := by rw [e2]; exact ((z4.alloc _).alloc _).alloc _
    have y5 : Boxed W2 (w.heap.size + 1 + 1) 28 (.int .i64 0) := by rw [e2]; exact ((z5.alloc _).alloc _).alloc _
    have hb12 : Below W1.heap.size W1 W2 := by rw [e2]; exact (by repeat (first | exact Below.refl _ _ | assumption | refine Below.drew ?_ | refine bel_al ?_ _ | refine bel_set ?_ (by omega) _ | refine bel_tr ?_ (by assumption)))
    have HB2 := Lib.hid (bel_tr HB1.out hb12)
    rw [← h7]
    rw [← h7] at hs1
    clear e2 hb12 n0 n1 n2 z3 z3' c4 f4 h7 z4 z5
    obtain ⟨hne, hlen, hok⟩ := mat_ok HER.out
    obtain ⟨i0, hi, hz0, hz1, hz2⟩ := info_parts info_str
    refine wpIn_rangeFunc_ownG (n := 5) rfl (by decide) (gf := 92) (lb := #[.pointer (some ⟨B7 + 1 + 1, 0, none⟩), .pointer (some ⟨B7 + 1, 0, none⟩)]) rfl trivial (enters_of Tryz.func92 (by kernel_rfl) rfl)
      (parts1_any 4 bs vs w W2 A c (.slice Av vs.length cv) (B7 + 1 + 1) (B7 + 1) HB2.out HL.out HV.out HX.out hok HNM.out yB yC) keepP_t (keepP_b (by omega)) (Below.refl _ _) (fun _ => rfl)
      (fun pre W => Out W2 B7 125 9 (pre.map (·.1)) W ∧ (∀ x ∈ pre, x.2 = 0))
      (Left w (w.heap.size + 1) (w.heap.size + 1 + 1))
      (fun s X Y row h hg hr => ⟨h.1.own (by omega) hg hr, h.2⟩)
      (fun c s X Y row h hg hr => h.own (B := W2.heap.size) (by omega) (by omega) (by omega) hg hr)
      ⟨⟨⟨rfl, rfl, rfl, Nat.le_refl _, fun _ _ _ => rfl⟩, _, y7, World.ownsRow_nil _ _ _ _⟩, by simp⟩
      (fun x => { tmps := #[.slice Av vs.length cv, .agg #[.slice A bs.length c], undef, .pointer (some ⟨w.heap.size, 0, none⟩), .pointer (some ⟨w.heap.size + 1, 0, none⟩), .pointer (some ⟨w.heap.size + 1 + 1, 0, none⟩), .int .i64 0, .pointer (some ⟨B7, 0, none⟩), .string x.1, .int .i64 x.2, .agg #[.slice A bs.length c], .int .i64 0, .int .i64 0, .bool false, undef, .slice Av vs.length cv, .agg #[.slice A bs.length c], .func (.func 92) #[] #[.pointer (some ⟨B7 + 1 + 1, 0, none⟩), .pointer (some ⟨B7 + 1, 0, none⟩)], .string x.1, .int .i64 x.2, undef, undef, undef, undef, undef, undef, undef, undef, undef], defers := [] }) ?assign ?body ?done ?stop
    case assign =>
      intro l x W K hK
      unfold encS
      gi_wp2
      exact hK
    case body =>
      rintro l pre ⟨s, e⟩ W ⟨⟨hgW, v, hv, hrow⟩, hz⟩ hlt
      have b4 : Boxed W (w.heap.size + 1) 9 (.string ⟨#[]⟩) := y4.kept hgW (by intro h; cases h; omega)
      have b5 : Boxed W (w.heap.size + 1 + 1) 28 (.int .i64 0) := y5.kept hgW (by intro h; cases h; omega)
      have hbW : Below w.heap.size w W := grown_bel HB2.out hgW (by omega)
      have hsW := hgW.size
      have hplen : (pre.map (·.1)).length = pre.length := by simp
      by_cases he : e = 0
      · subst he
        have HZ := Lib.hid hz
        have HBW := Lib.hid hbW
        have HGW := Lib.hid hgW
        have HROW := Lib.hid hrow
        have HYC := Lib.hid yC
        have hc := hv.cell
        clear hz hbW b4 b5
        obtain ⟨m, hm⟩ : ∃ m, m = (pre.map (·.1)).length := ⟨_, rfl⟩
        have hm1 : m ≤ 4096 := by omega
        gi_wp2_with (gi_at_builtin; refine wpListIn_append_own _ rfl _ _ 125 rfl W2.heap.size 9 i0 (.string ⟨#[]⟩) 1 16 und_strs hi hz0 hz1 hz2 rfl (by decide) _ _ _ rfl (HROW.out.alloc _) ⟨W.heap.size, 0, none⟩ 1 1 [.string s] rfl rfl (cell_one_new _ _ _) (by simp [Value.oneCell']) (by unfold maxLen; omega) (by omega) (by simp; omega) ?_; intro v' w1 hown' hgrow _; obtain ⟨g', cap', rfl⟩ := ownsRow_succ hown'; obtain ⟨hv1, ho2, hk2, hblk⟩ := out_app (by omega) HGW.out hv HROW.out hown' hgrow; have hc1 := hv1.cell; have hf1 := hv1.frozen; have HO2 := Lib.hid ho2; clear ho2)
        have ho2 := HO2.out
        simp only [List.length_map] at ho2 hk2 hblk
        refine ⟨hk2.from _, ⟨⟨ho2.1.os.trans HGW.out.os.symm, ho2.1.tape.trans HGW.out.tape.symm, ho2.1.output.trans HGW.out.output.symm, hk2.size, fun k hk => hblk k (by omega) (by omega)⟩, fun hcc => (World.cell?_of_block (a := ⟨B7 + 1, 0, none⟩) (hblk (B7 + 1) (by omega) (by omega))).trans hcc⟩, by rw [List.map_append]; exact ho2, ?_⟩
        intro y hy
        rcases List.mem_append.1 hy with h | h
        · exact HZ.out y h
        · rw [List.mem_singleton.1 h]
      · have hc4 := b4.cell
        have hf4 := b4.frozen
        have hc5 := b5.cell
        have hf5 := b5.frozen
        have HZ := Lib.hid hz
        have HBW := Lib.hid hbW
        clear hz hbW hgW hrow
        gi_wp2
        obtain ⟨k4, k5⟩ := two_set (by omega) b4 b5 (.string ⟨#[]⟩) (.int .i64 e)
        refine ⟨((KeepsOthers.setCell _ _ _).trans (KeepsOthers.setCell _ _ _)).from _, rfl, pre, s, e, rfl, HZ.out, he, k4, k5, bel_set (bel_set HBW.out (by omega) _) (by omega) _⟩
    case done =>
      rintro D ys W hD rfl ⟨⟨hgW, v, hv, hrow⟩, hz⟩ hK
      have b4 : Boxed W (w.heap.size + 1) 9 (.string ⟨#[]⟩) := y4.kept hgW (by intro h; cases h; omega)
      have b5 : Boxed W (w.heap.size + 1 + 1) 28 (.int .i64 0) := y5.kept hgW (by intro h; cases h; omega)
      have HBW := Lib.hid (grown_bel HB2.out hgW (by omega))
      have hc := hv.cell
      have HK := Lib.hid hK
      have HE := Lib.hid (firstE_none hz)
      have hrl : (((bs.map (partE vs)).map (·.1))).length = bs.length := by simp
      have hbl : 0 < bs.length := List.length_pos_iff.2 hne
      have hsW := hgW.size
      clear hz hK hgW
      obtain ⟨g, cap, hv2, hgb, hcap, hcmax, hglt⟩ := own_bits hrow (by omega)
      subst hv2
      have hcs : ∀ (j : Nat) x, ((bs.map (partE vs)).map (·.1))[j]? = some x → W.cell? ⟨g, 0 + j, none⟩ = some (.string x) := by
        intro j x hj
        have := hrow.cells (g := g) rfl j (.string x) (by rw [List.getElem?_map, hj]; rfl)
        rw [addr_add] at this
        exact this
      have hjl : (join (((bs.map (partE vs)).map (·.1)).map (·.data.toList)) [32]).length ≤ 140737488355328 := by
        have h := join_len [32] 1100000 (((bs.map (partE vs)).map (·.1)).map (·.data.toList)) (by
          intro z hz
          obtain ⟨u, hu, rfl⟩ := List.mem_map.1 hz
          obtain ⟨r, hr, rfl⟩ := List.mem_map.1 hu
          obtain ⟨q, hq, rfl⟩ := List.mem_map.1 hr
          exact partE_len HNM.out (hok q hq))
        simp only [List.length_map, List.length_cons, List.length_nil] at h
        have h3 : bs.length * (1100000 + (0 + 1)) ≤ 4096 * (1100000 + (0 + 1)) := Nat.mul_le_mul_right _ hlen
        omega
      have hjn := Tryz.strings_Join g 0 cap ((bs.map (partE vs)).map (·.1)) ⟨#[32]⟩ W hcs hglt (by omega) hcap hjl
      obtain ⟨js, hjs⟩ : ∃ js : ByteArray, js = ⟨(join (((bs.map (partE vs)).map (·.1)).map (·.data.toList)) (⟨#[32]⟩ : ByteArray).data.toList).toArray⟩ := ⟨_, rfl⟩
      rw [hrl, ← hjs] at hjn
      have HJN := Lib.hid hjn
      have HJS : Hid (js = joinB ((bs.map (partE vs)).map (·.1))) := Lib.hid hjs
      clear hcs hjl hjn hjs
      gi_wp2_with fail
      refine ⟨trivial, callsIn_wide.2 ?_⟩
      with_reducible refine HJN.out.mono ?_
      rintro e W6 ⟨rfl, hb6⟩
      have k4 : Boxed W6 (w.heap.size + 1) 9 (.string ⟨#[]⟩) := (hb6.block _ (by omega)).trans b4
      have k5 : Boxed W6 (w.heap.size + 1 + 1) 28 (.int .i64 0) := (hb6.block _ (by omega)).trans b5
      have HK6 : Hid (W6.heap[D]? = some (.deferred (some []))) := Lib.hid ((hb6.block _ (Array.getElem?_eq_some_iff.1 HK.out).1).trans HK.out)
      have hc4 := k4.cell
      have hf4 := k4.frozen
      have hc5 := k5.cell
      have hf5 := k5.frozen
      have HBW6 := Lib.hid (HBW.out.trans (hb6.mono HBW.out.size))
      clear hb6
      gi_wp2_with fail
      obtain ⟨q4, q5⟩ := two_set (by omega) k4 k5 (.string js) (.int .i64 0)
      have hKD := ((KeepsOthers.setCell W6 ⟨w.heap.size + 1, 0, none⟩ (.string js)).trans (KeepsOthers.setCell _ ⟨w.heap.size + 1 + 1, 0, none⟩ (.int .i64 0))).same D _ HK6.out rfl
      refine ⟨by simp, .inl ⟨_, _, rfl, run_takeDeferred hKD, ?_⟩⟩
      have hd4 := (q4.kept (grownBy_putObj' _ D (.deferred none)) (by intro h; cases h; have h2 : (World.setCell _ _ _).heap[w.heap.size + 1]? = _ := q4; rw [hKD] at h2; cases h2)).cell
      have hd5 := (q5.kept (grownBy_putObj' _ D (.deferred none)) (by intro h; cases h; have h2 : (World.setCell _ _ _).heap[w.heap.size + 1 + 1]? = _ := q5; rw [hKD] at h2; cases h2)).cell
      refine ⟨.tuple #[.string js, .int .i64 0], ?_, ?_⟩
      · simp [results, Tryz.f27, go_sem, hd4, hd5]
      · exact ⟨by rw [formatR_ok HER.out HE.out, ← HJS.out], (bel_set (bel_set HBW6.out (by omega) _) (by omega) _).trans (belowK_b (w := w) (Nat.le_refl _) _ D _ _ (by omega) hKD rfl rfl)⟩
    case stop =>
      rintro D c pre W hD hpre ⟨rfl, p, tx, e, hp, hz, he, b4, b5, hb⟩ hK
      have HP := Lib.hid (hp ▸ hpre)
      have HZ := Lib.hid hz
      have HBB := Lib.hid hb
      have HK := Lib.hid hK
      clear hpre hp hz hb hK
      gi_wp2
      refine ⟨by simp, .inl ⟨_, _, rfl, run_takeDeferred HK.out, ?_⟩⟩
      have hc4 := (b4.kept (grownBy_putObj' W D (.deferred none)) (by intro h; cases h; have := b4; have h2 : W.heap[w.heap.size + 1]? = _ := b4; rw [HK.out] at h2; cases h2)).cell
      have hc5 := (b5.kept (grownBy_putObj' W D (.deferred none)) (by intro h; cases h; have h2 : W.heap[w.heap.size + 1 + 1]? = _ := b5; rw [HK.out] at h2; cases h2)).cell
      refine ⟨.tuple #[.string noText, .int .i64 e], ?_, ?_⟩
      · simp [results, Tryz.f27, go_sem, hc4, hc5]
      · exact ⟨by rw [formatR_err HER.out (firstE_stop HP.out HZ.out he) he], HBB.out.trans (belowK_b (w := w) (Nat.le_refl _) W D _ _ (by omega) HK.out rfl rfl)⟩
  · have c4 := z4.cell
    have f4 := z4.frozen
    have c5 := z5.cell
    have f5 := z5.frozen
    gi_wp2_with fail
    obtain ⟨b4, b5⟩ := two_set (by omega) z4 z5 (.string ⟨#[]⟩) (.int .i64 er)
    have hc4 := b4.cell
    have hc5 := b5.cell
    refine ⟨.tuple #[.string ⟨#[]⟩, .int .i64 er], ?_, ?_⟩
    · simp [results, Tryz.f27, go_sem, hc4, hc5]
    · exact ⟨by rw [formatR_bad HER.out her0]; rfl, ((bel_set (bel_set HB1.out (by omega) _) (by omega) _))⟩
end Go.Proofs.YtclpglgigpjfoaaGreatDoor
