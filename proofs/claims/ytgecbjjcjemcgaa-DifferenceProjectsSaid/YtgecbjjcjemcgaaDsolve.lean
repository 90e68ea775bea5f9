/- Solving a zone, as the program does it: the greatest values, or a contradiction. -/
import Derived.Test.YtgecbjjcjemcgaaDback
import Derived.Test.YtgecbjjcjemcgaaDrep
import Derived.Deep.Cut
import Derived.Deep.CutRange
import Derived.Deep.DeepCutAuto
namespace Go.Proofs.Ytgecbjjcjemcgaa
open Go.RowKit Go.Shelf

attribute [local go_sem] Oper.semAt_some

theorem back_any (n : Nat) (A : Option Addr) (m c : Nat) (bd v0 : Nat) (w : World) : Calls Try.prog 71 #[.pointer (some ⟨bd, 0, none⟩), .agg #[.int .i64 (n : Int), .slice A m c], .int .i64 (v0 : Int)] w fun e w' =>
    e = .returned (.func (.func 82) #[] #[.pointer (some ⟨w.heap.size + 2, 0, none⟩), .pointer (some ⟨w.heap.size, 0, none⟩), .pointer (some ⟨w.heap.size + 1, 0, none⟩)]) ∧
    w' = ((w.alloc (.cells #[.pointer (some ⟨bd, 0, none⟩)] 105)).alloc (.cells #[.int .i64 (n : Int), .slice A m c] 24)).alloc (.cells #[.int .i64 (v0 : Int)] 3) := by
  go_enter Try.func71, Try.ntmps71
  go_wp2
  go_ret
  exact ⟨rfl, rfl⟩

theorem dist_make {w0 W : World} {g1 g2 n : Nat} (h1 : Row W g1 (List.replicate n 0)) (h2 : Row W g2 (List.replicate n (-1))) (hne : g1 ≠ g2) (o1 : w0.heap.size ≤ g1) (o2 : w0.heap.size ≤ g2) (bel : Below w0.heap.size w0 W) (hn : n ≤ 6) :
    Dist w0 (W.alloc (.cells #[.slice (some ⟨g1, 0, none⟩) n n, .slice (some ⟨g2, 0, none⟩) n n] 108)) W.heap.size g1 g2 n n (List.replicate n 0) (List.replicate n (-1)) := by
  have hb := bel_one W (.cells #[.slice (some ⟨g1, 0, none⟩) n n, .slice (some ⟨g2, 0, none⟩) n n] 108)
  have hc := (new_cells (Below.refl (W.alloc (.cells #[.slice (some ⟨g1, 0, none⟩) n n, .slice (some ⟨g2, 0, none⟩) n n] 108)).heap.size _)).1
  have l1 := h1.lt
  have l2 := h2.lt
  exact ⟨by rw [List.length_replicate]; exact hc 0, by rw [List.length_replicate]; exact hc 1, h1.stays hb, h2.stays hb, hne, by omega, by omega, o1, o2, bel_tr bel hb, by rw [List.length_replicate]; exact ⟨Nat.le_refl _, by unfold maxLen; omega⟩, by rw [List.length_replicate]; exact ⟨Nat.le_refl _, by unfold maxLen; omega⟩⟩

theorem blk_cell' {W : World} {g t : Nat} {cs : Array Value} (h : W.heap[g]? = some (.cells cs t (0, 0))) (i : Nat) {v : Value} (hv : cs[i]? = some v := by rfl) : W.cell? ⟨g, i, none⟩ = some v := by simp [World.cell?, h, hv]

/-- the greatest values, in a new row; or a contradiction -/
def SolveRet (w : World) (n : Nat) (bs : List Ed) (e : Ending) (W : World) : Prop := Below w.heap.size w W ∧
  ((feas n bs = true ∧ ∃ g, e = .returned (.tuple #[.slice (some ⟨g, 0, none⟩) n n, .slice none 0 0]) ∧ Row W g (sums n bs) ∧ w.heap.size ≤ g) ∨
   (feas n bs = false ∧ ∃ L A c, e = .returned (.tuple #[.slice none 0 0, .slice (some A) L c]) ∧ Cyc n bs (runs n bs (n + 1)).l (cycFrom n bs) L ∧ cycSum bs (runs n bs (n + 1)).l (cycFrom n bs) L < 0 ∧
     IsInts W (.slice (some A) L c) (cycL bs (runs n bs (n + 1)).l (cycFrom n bs) L)))

set_option maxRecDepth 100000 in
set_option maxHeartbeats 4000000 in
theorem solve_any (n : Nat) (h16 : 1 ≤ n ∧ n ≤ 6) (bs : List Bd) (v : Value) (w : World) (hl : IsBds w v bs) (hg : good n bs) (hlen : bs.length ≤ 256) :
    Calls Try.prog 42 #[zoneV n v] w (SolveRet w n (bs.map ed)) := by
  unfold zoneV
  have HL := Lib.hid hl
  have HG := Lib.hid hg
  have HOK := Lib.hid (good_ok hg)
  obtain ⟨A, c, rfl, -, -, -⟩ := hl
  obtain ⟨hn1, hn6⟩ := h16
  have hmk := fun W => make_ints n (by omega) W
  clear hg
  refine callsIn_wide.1 (callsIn_of_wp_marks (n := 9) Try.func42 rfl trivial ?_)
  simp only [Try.ntmps42, List.size_toArray, List.length_cons, List.length_nil, Nat.reduceAdd, Nat.reduceSub, Array.replicate_succ, Array.replicate_zero, List.push_toArray, List.append_toArray, List.nil_append, List.cons_append]
  refine wpIn_wide.2 ?_
  go_wp2_with fail
  go_cut [4] from 8 to 16 (fun d wx => ∃ bd g1 g2 : Nat, d = .pointer (some ⟨bd, 0, none⟩) ∧ Hid (Dist w wx bd g1 g2 n n (List.replicate n 0) (List.replicate n (-1)) ∧ g1 ≠ w.heap.size ∧ g2 ≠ w.heap.size ∧ bd ≠ w.heap.size ∧ wx.cell? ⟨w.heap.size, 0, none⟩ = some (.int .i64 (n : Int)) ∧ wx.cell? ⟨w.heap.size, 1, none⟩ = some (.slice A bs.length c)))
  case first =>
    have HN : Hid (n = 1 ∨ n = 2 ∨ n = 3 ∨ n = 4 ∨ n = 5 ∨ n = 6) := Lib.hid (by omega)
    refine wp_gen ?_
    intro W0 hW0
    have z0 : W0.cell? ⟨w.heap.size, 0, none⟩ = some (.int .i64 (n : Int)) := by rw [hW0]; exact (new_cells (Below.refl _ _)).1 0
    have z1 : W0.cell? ⟨w.heap.size, 1, none⟩ = some (.slice A bs.length c) := by rw [hW0]; exact (new_cells (Below.refl _ _)).1 1
    have hb0 : Below w.heap.size w W0 := by rw [hW0]; exact bel_one _ _
    have hs0 : W0.heap.size = w.heap.size + 1 := by rw [hW0]; simp
    clear hW0
    go_region_held3 (fun W => W.cell? ⟨w.heap.size, 0, none⟩ = some (.int .i64 (n : Int))) (with_reducible exact cell_stays (by repeat (first | with_reducible exact Below.refl _ _ | assumption | with_reducible refine Below.drew ?_ | with_reducible refine bel_al ?_ _ | with_reducible refine bel_tr ?_ (by assumption))) z0) (first
      | (go_at_call 69; refine (repeat_one n HN.out _ _ (by first | exact heap_new' (W0.alloc (.cells (ints (List.replicate n 0)).toArray 3)) (w.heap.size + 1 + 1) _ (by simp [hs0]) | exact Row.stays (heap_new' W0 (w.heap.size + 1) (.cells #[.int .i64 (-1)] 3) (by rw [hs0])) (bel_one _ _).drew | exact heap_new' W0 (w.heap.size + 1) _ (by rw [hs0]))).mono ?_; rintro e w5 ⟨g', rfl, hR5, hge5, hb5'⟩; have hb5 := bel_tr (Below.refl _ _).drew hb5'; clear hb5'))
    · have hr1 : Row w5 (w.heap.size + 1) (List.replicate n 0) := Row.stays (Row.stays (heap_new' W0 (w.heap.size + 1) _ (by rw [hs0])) (bel_one _ _)) hb5
      have hbw : Below w.heap.size w w5 := bel_tr (bel_al (bel_al hb0 _) _) hb5
      have hsz : w.heap.size + 3 ≤ g' := by have := hge5; simp [hs0] at this; omega
      have HD := Lib.hid (dist_make (w0 := w) hr1 hR5 (by omega) (by omega) (by omega) hbw hn6)
      have hl5 := hr1.lt
      have z0' := cell_stays (bel_tr (bel_al (bel_al (Below.refl _ W0) _) _) hb5) z0
      have z1' := cell_stays (bel_tr (bel_al (bel_al (Below.refl _ W0) _) _) hb5) z1
      go_wp2_with fail
      go_meet
      case rel => exact ⟨_, _, _, rfl, HD.out, by omega, by omega, by omega, cell_stays (bel_one _ _) z0', cell_stays (bel_one _ _) z1'⟩
    · have hr1 : Row w5 (w.heap.size + 1 + 1) (List.replicate n 0) := Row.stays (heap_new' (W0.alloc (.cells #[.int .i64 (-1)] 3)) (w.heap.size + 1 + 1) _ (by simp [hs0])) hb5
      have hbw : Below w.heap.size w w5 := bel_tr (bel_al (bel_al hb0 _) _) hb5
      have hsz : w.heap.size + 3 ≤ g' := by have := hge5; simp [hs0] at this; omega
      have HD := Lib.hid (dist_make (w0 := w) hr1 hR5 (by omega) (by omega) (by omega) hbw hn6)
      have hl5 := hr1.lt
      have z0' := cell_stays (bel_tr (bel_al (bel_al (Below.refl _ W0) _) _) hb5) z0
      have z1' := cell_stays (bel_tr (bel_al (bel_al (Below.refl _ W0) _) _) hb5) z1
      go_wp2_with fail
      go_meet
      case rel => exact ⟨_, _, _, rfl, HD.out, by omega, by omega, by omega, cell_stays (bel_one _ _) z0', cell_stays (bel_one _ _) z1'⟩
    · have hbw : Below w.heap.size w w5 := bel_tr (bel_al hb0 _) hb5
      have hl5 := hR5.lt
      have hsz : w.heap.size + 2 ≤ g' := by have := hge5; simp [hs0] at this; omega
      have HD := Lib.hid (dist_make (w0 := w) (row_new w5 (List.replicate n 0)) (hR5.stays (bel_one _ _)) (by omega) (by omega) (by omega) (bel_al hbw _) hn6)
      have z0' := cell_stays (bel_tr (bel_al (Below.refl _ W0) _) hb5) z0
      have z1' := cell_stays (bel_tr (bel_al (Below.refl _ W0) _) hb5) z1
      go_wp2_with fail
      go_meet
      case rel =>
        have h := HD.out
        rw [World.size_alloc] at h
        exact ⟨_, _, _, rfl, h, by omega, by omega, by omega, cell_stays (bel_al (bel_one _ _) _) z0', cell_stays (bel_al (bel_one _ _) _) z1'⟩
  case rest =>
    obtain ⟨bd, g1, g2, rfl, HC⟩ := hcut
    have z0 := HC.out.2.2.2.2.1
    have z1 := HC.out.2.2.2.2.2
    have hw1 : IntKind.i64.wrap ((n : Int) + 1) = (n : Int) + 1 := IntWalk.i64_in _ (by omega)
    go_wp2_with fail
    go_loopw [5, 20] (fun o i wr => ∃ r : Nat, r ≤ n + 1 ∧ i = .int .i64 r ∧ o = .int .i64 (runs n (bs.map ed) r).out ∧ Hid (Dist w wr bd g1 g2 n n (runs n (bs.map ed) r).d (runs n (bs.map ed) r).l ∧ wr.cell? ⟨w.heap.size, 0, none⟩ = some (.int .i64 (n : Int)) ∧ wr.cell? ⟨w.heap.size, 1, none⟩ = some (.slice A bs.length c) ∧ (r = 0 ∨ (runs n (bs.map ed) r).out ≠ -1))) (fun _ i _ => n + 1 - (intOf i).toNat)
    case atStart => exact ⟨0, by omega, rfl, rfl, HC.out.1, z0, z1, .inl rfl⟩
    case round =>
      obtain ⟨r, hr, rfl, rfl, HI⟩ := hrel
      replace z0 := HI.out.2.1
      replace z1 := HI.out.2.2.1
      by_cases hlt : r < n + 1
      · have hlt' : (r : Int) < (n : Int) + 1 := by omega
        obtain ⟨rd, rl⟩ := runs_len (n := n) (bs := bs.map ed) r
        have hlow := runs_low HG.out r
        have hmul : r * bs.length ≤ 6 * 256 := Nat.mul_le_mul (by omega) hlen
        have HRX := Lib.hid (relax_any n (r * bs.length) bs _ w wr bd g1 g2 n n (runs n (bs.map ed) r) HL.out HG.out HI.out.1 rd rl hlow (by omega))
        have hout : (runs n (bs.map ed) (r + 1)).out = -1 ∨ 0 ≤ (runs n (bs.map ed) (r + 1)).out := by
          obtain ⟨T, st, R, hinv⟩ := inv_runs HOK.out r
          rcases hinv.out with h | ⟨v, _, h, _⟩
          · exact .inl h
          · right; rw [h]; omega
        obtain ⟨S, hS⟩ : ∃ S, S = runs n (bs.map ed) (r + 1) := ⟨_, rfl⟩
        have HS := Lib.hid hS
        rw [← hS] at hout
        have hS' : rround (bs.map ed) (runs n (bs.map ed) r) = S := hS.symm
        rw [hS'] at HRX
        clear hS hS' hlow hmul rd rl
        unfold zoneV at HRX
        have hwb := World.block_lt_of_cell? wr _ z0
        simp only at hwb
        have hg1 := HC.out.2.1
        have hg2 := HC.out.2.2.1
        rcases hout with ho | ho
        · have hoi : S.out < 0 := by omega
          go_wp2_with (go_at_call 70; refine (HRX.out).mono ?_; rintro e w4 ⟨rfl, hD4, hsz4, hk4⟩; have q0 := hD4.s0; have hqb := World.block_lt_of_cell? w4 _ q0; simp only at hqb)
          have hdl : S.d.length = n := by rw [HS.out]; exact (runs_len (r + 1)).1
          refine ⟨.tuple #[.slice (some ⟨g1, 0, none⟩) S.d.length n, .slice none 0 0], by simp [results, Try.results42, go_sem], ?_⟩
          obtain ⟨f1, f2⟩ := feas_stop (n := n) (bs := bs.map ed) (r := r) (by omega) (by rw [← HS.out]; exact ho)
          refine ⟨hD4.bel, .inl ⟨f1, g1, by rw [hdl], ?_, hD4.o1⟩⟩
          rw [f2, ← HS.out]
          exact hD4.r1
        · have hoi : ¬ S.out < 0 := by omega
          go_wp2_with (go_at_call 70; refine (HRX.out).mono ?_; rintro e w4 ⟨rfl, hD4, hsz4, hk4⟩)
          go_roundw
          case rel => exact ⟨r + 1, by omega, by go_num, by rw [← HS.out], by rw [← HS.out]; exact ⟨hD4, (World.cell?_of_block (hk4 _ hwb (Ne.symm hg1) (Ne.symm hg2))).trans z0, (World.cell?_of_block (hk4 _ hwb (Ne.symm hg1) (Ne.symm hg2))).trans z1, .inr (by omega)⟩⟩
          case measure => simp [intOf]; omega
      · obtain rfl : r = n + 1 := by omega
        have hinf : feas n (bs.map ed) = false := feas_never (by have h := HI.out.2.2.2; omega)
        have HINF := Lib.hid hinf
        obtain ⟨⟨v, hv, hvo, hbk⟩, L, hcyc, hsum⟩ := cyc_of HOK.out hinf
        obtain ⟨ls, hls⟩ : ∃ ls, ls = (runs n (bs.map ed) (n + 1)).l := ⟨_, rfl⟩
        have hlsl : ls.length = n := by rw [hls]; exact (runs_len (n + 1)).2
        have hfrom : cycFrom n (bs.map ed) = back (bs.map ed) ls v n := by unfold cycFrom; rw [hvo, hls]; rfl
        have hD := HI.out.1
        rw [← hls] at hbk hcyc hsum hD
        have HLS := Lib.hid hls
        have HFR := Lib.hid hfrom
        have HBK := Lib.hid hbk
        have HCYC := Lib.hid hcyc
        have HSUM := Lib.hid hsum
        have HD := Lib.hid hD
        rw [hvo]
        clear hls hfrom hbk hcyc hsum hD hinf hvo HI hr
        go_wp2_with fail
        refine wp_gen ?_
        intro W5 hW5
        subst hW5
        go_loopw [5, 34] (fun o i wr' => ∃ k : Nat, k ≤ n ∧ i = .int .i64 k ∧ o = .int .i64 (back (bs.map ed) ls v k : Int) ∧ Below W5.heap.size W5 wr') (fun _ i _ => n - (intOf i).toNat)
        case atStart => exact ⟨0, by omega, rfl, rfl, Below.refl _ _⟩
        case round =>
          obtain ⟨k, hk, rfl, rfl, hb⟩ := hrel
          by_cases hlt : k < n
          · have hlt' : (k : Int) < (n : Int) := by omega
            obtain ⟨i, e, h1, h2, h3, h5⟩ := HBK.out k hlt
            obtain ⟨at0, hat0⟩ : ∃ a, a = back (bs.map ed) ls v k := ⟨_, rfl⟩
            obtain ⟨at1, hat1⟩ : ∃ a, a = back (bs.map ed) ls v (k + 1) := ⟨_, rfl⟩
            rw [← hat0] at h1 h2 ⊢
            rw [← hat1] at h5
            have HAT1 := Lib.hid hat1
            obtain ⟨b, hbi, hbe⟩ : ∃ b, bs[i]? = some b ∧ b.y = (at1 : Int) := by
              rw [List.getElem?_map] at h3
              cases hbi : bs[i]? with
              | none => rw [hbi] at h3; cases h3
              | some b =>
                rw [hbi] at h3
                injection h3 with h3
                refine ⟨b, rfl, ?_⟩
                have := HG.out b (List.mem_of_getElem? hbi)
                rw [← h5, ← h3]
                simp only [ed]
                omega
            have hil := (List.getElem?_eq_some_iff.1 hbi).1
            obtain ⟨gb, ob, rfl, -, kb1⟩ := bd_at HL.out HD.out.bel hbi (Nat.le_refl _)
            rw [hbe] at kb1
            have kr : W5.cell? ⟨g2, at0, none⟩ = some (.int .i64 (i : Int)) := by rw [HD.out.r2.cell (by omega), h2]
            have kb := HD.out.s1
            have x1 := cell_stays hb z1
            replace kb1 := cell_stays hb kb1
            replace kr := cell_stays hb kr
            replace kb := cell_stays hb kb
            have hat0i : (at0 : Int) < (ls.length : Int) := by omega
            have hii : (i : Int) < (bs.length : Int) := by omega
            clear hat0 hat1 h3 h5 hbi hbe h2
            go_wp2_with fail
            go_region_held3 (fun W => W.cell? ⟨w.heap.size, 1, none⟩ = some (.slice (some ⟨gb, ob, none⟩) bs.length c) ∧ W.cell? ⟨bd, 1, none⟩ = some (.slice (some ⟨g2, 0, none⟩) ls.length n) ∧ W.cell? ⟨g2, at0, none⟩ = some (.int .i64 (i : Int)) ∧ W.cell? ⟨gb, ob + i * 3 + 1, none⟩ = some (.int .i64 (at1 : Int))) (exact ⟨x1, kb, kr, kb1⟩) (fail)
            go_wp2_with fail
            go_roundw
            case rel => exact ⟨k + 1, by omega, by go_num, by rw [HAT1.out], hb.drew⟩
            case measure => simp [intOf]; omega
          · obtain rfl : k = n := by omega
            have x0 := cell_stays hb z0
            have x1 := cell_stays hb z1
            have HD6 := Lib.hid (HD.out.grow hb)
            obtain ⟨v0, hv0⟩ : ∃ a, a = back (bs.map ed) ls v k := ⟨_, rfl⟩
            rw [← hv0]
            have HV0 : Hid (v0 = cycFrom k (bs.map ed)) := Lib.hid (hv0.trans HFR.out.symm)
            clear hv0
            have hwb := World.block_lt_of_cell? wr _ x0
            simp only at hwb
            go_wp2_with (go_at_call 71; refine (back_any k A bs.length c bd v0 _).mono ?_; rintro e w7 ⟨rfl, rfl⟩)
            refine wp_gen ?_
            intro W8 hW8
            have hbW : Below wr.heap.size wr W8 := by rw [hW8]; exact bel_al (bel_al (bel_al (bel_one _ _) _) _) _
            have hs8 : W8.heap.size = wr.heap.size + 4 := by rw [hW8]; simp
            have bO : Boxed W8 wr.heap.size 27 (.slice none 0 0) := by
              rw [hW8]; exact (((Boxed.new wr 27 (.slice none 0 0)).alloc _).alloc _).alloc _
            have kd : W8.cell? ⟨wr.heap.size + 1, 0, none⟩ = some (.pointer (some ⟨bd, 0, none⟩)) := by
              rw [hW8]
              exact cell_stays (bel_al (bel_one _ _) _) (blk_cell' (heap_new' _ _ _ (by simp)) 0)
            have kz : W8.cell? ⟨wr.heap.size + 2, 1, none⟩ = some (.slice A bs.length c) := by
              rw [hW8]
              exact cell_stays (bel_one _ _) (blk_cell' (heap_new' _ _ _ (by simp)) 1)
            have kf : W8.cell? ⟨wr.heap.size + 3, 0, none⟩ = some (.int .i64 (v0 : Int)) := by
              rw [hW8]
              exact blk_cell' (heap_new' _ _ _ (by simp)) 0
            clear hW8
            have hD8 := HD6.out.grow hbW
            have hbd8 := World.block_lt_of_cell? wr _ HD6.out.s0
            have hg28 := HD6.out.r2.lt
            have hcyc8 : Cyc k (bs.map ed) ls v0 L := by rw [HV0.out]; exact HCYC.out
            simp only at hbd8
            have hww : w.heap.size ≤ wr.heap.size := HD6.out.bel.size
            have hseq : SeqStopsK Fence.wide (9 - 1) Try.prog 82 #[.pointer (some ⟨wr.heap.size + 3, 0, none⟩), .pointer (some ⟨wr.heap.size + 1, 0, none⟩), .pointer (some ⟨wr.heap.size + 2, 0, none⟩)] (fun x : Int => #[Value.int .i64 x]) (KC wr.heap.size (wr.heap.size + 4)) (fun ys => ys = cycL (bs.map ed) ls v0 L) (fun _ => True) L W8 := by
              intro l J Jx W hW hJA _ hY h0
              have q1 := hD8.s1
              exact back1_in k 8 bs A c w wr.heap.size (wr.heap.size + 3) (wr.heap.size + 1) (wr.heap.size + 2) bd g2 k (wr.heap.size + 4) ls v0 L l J Jx HL.out hcyc8 HG.out hY W hJA (bel_tr hD8.bel hW) (by omega) (by omega) (by omega) (by omega) (by omega) (by omega) (by omega) (by omega) (by omega) (by omega) (by omega) hww hlsl (cell_stays hW kf) (cell_stays hW kd) (cell_stays hW kz) (cell_stays hW q1) (hD8.r2.stays hW) h0
            obtain ⟨i0, hi0, hz0, hz1, hz2⟩ := info_parts info_int
            have hL1 := HCYC.out.pos
            have hLk := HCYC.out.le
            have HW8 := Lib.hid hD8.bel
            refine (wpIn_wide (n := 9)).1 ?_
            refine' wpIn_rangeFunc_ownG (n := 9) (F := Fence.wide) rfl (by omega) (gf := 82) (lb := #[.pointer (some ⟨wr.heap.size + 3, 0, none⟩), .pointer (some ⟨wr.heap.size + 1, 0, none⟩), .pointer (some ⟨wr.heap.size + 2, 0, none⟩)]) rfl trivial (enters_of Try.func82 (by kernel_rfl) rfl)
              hseq KC.trans ?hKb (Below.refl _ _) (fun _ => rfl)
              (fun pre W => (∃ v, Boxed W wr.heap.size 27 v ∧ W.ownsRow W8.heap.size 3 1 v pre.length (pre.map (Value.int .i64)) ∧ True) ∧ Below w.heap.size w W ∧ W8.heap.size ≤ W.heap.size)
              (fun _ _ _ => False)
              (OwnFrom.and (Own.from (holdsRow_own W8.heap.size wr.heap.size 27 3 1 (fun pre : List Int => pre.length) (fun pre : List Int => pre.map (Value.int .i64)) (fun _ _ => True)) _) (OwnFrom.and (ownFrom_below (Nat.le_refl _) (by omega)) (fun _ _ _ _ hs hg _ => Nat.le_trans hs hg.size)))
              (fun _ _ _ _ _ hs _ _ => hs)
              ⟨⟨_, bO, World.ownsRow_nil _ _ _ _, trivial⟩, HW8.out, Nat.le_refl _⟩
              _ ?assign ?body ?done ?stop
            case hKb =>
              intro W l o o' hl _ _ _ b hb _
              exact (grownBy_putObj' W l o').block b (by
                rename_i ho _ _ _
                have := (Array.getElem?_eq_some_iff.1 ho).1
                omega) (fun e => by injection e with e; omega)
            case assign =>
              intro l x W K hK
              gi_wp2
              exact hK
            case body =>
              rintro l pre x W ⟨⟨v, hv, hrow, -⟩, hB, hsz⟩ hlt
              have hc := hv.cell
              gi_wp2_with (gi_at_builtin; refine wpListIn_append_own _ rfl _ _ 27 rfl W8.heap.size 3 i0 (.int .i64 0) 1 8 Try.underlying27 hi0 hz0 hz1 hz2 rfl (by decide) _ _ _ rfl (hrow.alloc _) ⟨W.heap.size, 0, none⟩ 1 1 [.int .i64 x] rfl rfl (cell_one_new _ _ _) (by simp [Value.oneCell']) (by unfold maxLen; omega) (by omega) (by simp; omega) ?_; intro v' w1 hown' hgrow _; obtain ⟨g', cap', rfl⟩ := ownsRow_succ hown'; obtain ⟨hv1, hv2, hr2, hk2, hb2⟩ := hv.appended (by decide) (ownsRow_more hrow (by omega)) (by omega) (Nat.le_refl _) (ownsRow_more hown' (by omega)) hgrow; have hc1 := hv1.cell; have hf1 := hv1.frozen)
              refine ⟨hk2.from _, ?_, ⟨_, hv2, ?_, trivial⟩, hB.trans (hb2.mono hww), ?_⟩
              · intro b hb hn
                refine (Below.heap_setCell w1 ⟨wr.heap.size, 0, none⟩ _ b hn).trans ((hgrow.block b (by simp; omega) (fun e => ?_)).trans (Below.heap_alloc W _ b (by omega)))
                have := (ownsRow_lt hrow e.symm).1
                omega
              · have h5 := ownsRow_kept (w' := w1.setCell ⟨wr.heap.size, 0, none⟩ (.slice (some ⟨g', 0, none⟩) (pre.length + 1) cap')) hown' (fun g hg => Below.heap_setCell w1 ⟨wr.heap.size, 0, none⟩ _ g (by have := (ownsRow_lt hown' hg).1; simp only; omega))
                simpa using h5
              · have h6 := hgrow.size
                simp only [World.size_setCell]
                simp only [World.size_alloc] at h6
                omega
            case done =>
              rintro D ys W hD rfl ⟨⟨v, hv, hrow, -⟩, hB, hsz⟩ hK
              have hc := hv.cell
              obtain ⟨g, cap, spare, rfl, -⟩ := own_form hrow (by rw [cycL_length]; omega)
              go_wp2_with fail
              go_region_held3 (fun W => W.cell? ⟨wr.heap.size, 0, none⟩ = some (.slice (some ⟨g, 0, none⟩) (cycL (bs.map ed) ls v0 L).length cap)) (exact hc) (fail)
              go_wp2_with fail
              have hK' : W.drew.heap[D]? = some (.deferred (some [])) := hK
              refine ⟨by simp, .inl ⟨_, _, rfl, run_takeDeferred hK', ?_⟩⟩
              refine ⟨.tuple #[.slice none 0 0, .slice (some ⟨g, 0, none⟩) (cycL (bs.map ed) ls v0 L).length cap], by simp [results, Try.results42, go_sem], ?_⟩
              have hown : W.drew.ownsRow W8.heap.size 3 1 (.slice (some ⟨g, 0, none⟩) (cycL (bs.map ed) ls v0 L).length cap) (cycL (bs.map ed) ls v0 L).length ((cycL (bs.map ed) ls v0 L).map (Value.int .i64)) := ownsRow_below hrow (Below.refl _ _).drew
              have hbel := hB.drew.trans (belowK_b (n₀ := w.heap.size) (w := w) (Nat.le_refl _) W.drew D _ (.deferred none) (by omega) hK' rfl rfl)
              have hints := sl_of_means (ints_mean w (cycL (bs.map ed) ls v0 L)) hbel (ownsRow_putObj hown _ hK' rfl)
              refine ⟨hbel, .inr ⟨HINF.out, L, ⟨g, 0, none⟩, cap, ?_, ?_, ?_, ?_⟩⟩
              · rw [cycL_length]
              · rw [← HLS.out]; exact HCYC.out
              · rw [← HLS.out]; exact HSUM.out
              · rw [cycL_length] at hints
                rw [← HLS.out, ← HV0.out]
                exact hints
            case stop =>
              rintro D c pre W _ _ h _
              exact h.elim
end Go.Proofs.Ytgecbjjcjemcgaa
