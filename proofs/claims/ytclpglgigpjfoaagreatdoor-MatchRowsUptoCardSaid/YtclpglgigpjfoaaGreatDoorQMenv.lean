/- match.Env. -/
import Derived.Test.YtclpglgigpjfoaaGreatDoorQMev
import Derived.Test.YtclpglgigpjfoaaGreatDoorQMbind
import Derived.Test.YtclpglgigpjfoaaGreatDoorQMseen
import Derived.Test.YtclpglgigpjfoaaGreatDoorQLcmp
namespace Go.Proofs.YtclpglgigpjfoaaGreatDoor
open Go.RowKit

def EnvRet (w : World) (r : List (List Evt) × Int) (e : Ending) (W : World) : Prop := ∃ v, e = .returned (.tuple #[.agg #[v], .int .i64 r.2]) ∧ IsVars W v r.1 ∧ Below w.heap.size w W
theorem made_nil (n : Nat) : (madeCells #[Value.slice none 0 0] n).toList = List.replicate n (Value.slice none 0 0) := by
  rw [List.eq_replicate_iff]
  refine ⟨by simp [madeCells], fun b hb => ?_⟩
  simp [madeCells] at hb
  obtain ⟨_, _, rfl⟩ := hb
  simp [Nat.mod_one]
theorem made_row {w' : World} {B e g n : Nat} (h : w'.ownsRow B e 1 (.slice (some ⟨g, 0, none⟩) n n) n (madeCells (Value.slice none 0 0).cells (n * 1)).toList) : w'.heap[g]? = some (.cells (List.replicate n (Value.slice none 0 0)).toArray e (0, 0)) := by
  rcases h.2 with ⟨h1, _⟩ | ⟨g', cap, cur, hv, _, hh, _, _, hs, ht⟩
  · cases h1
  · simp only [Value.slice.injEq, Option.some.injEq, Addr.mk.injEq, and_true, true_and] at hv
    obtain ⟨rfl, rfl⟩ := hv
    rw [hh]
    have h2 : cur.toList = List.replicate n (Value.slice none 0 0) := by
      rw [List.take_of_length_le (by simp [hs])] at ht
      rw [ht, Nat.mul_one]; exact made_nil n
    rw [← h2]

theorem rows_set {es : List (List EV)} {j : Nat} {m : List EV} {x : Evt} {u : Value} (h : es[j]? = some m) : (es.set j (m ++ [(x, u)])).map (fun l => l.map (·.1)) = (es.map fun l => l.map (·.1)).set j (((es.map fun l => l.map (·.1)).getD j []) ++ [x]) := by
  rw [List.map_set, List.getD_eq_getElem?_getD, List.getElem?_map, h]
  simp
theorem rows_step {l : List Evt} {N : Nat} {bs : List Bnd} {k j : Nat} {b : Bnd} {y : Evt} {u : Value} {es : List (List EV)} {m : List EV} (hE : es.map (fun l => l.map (·.1)) = envV l N (bs.take k)) (hb : bs[k]? = some b) (hj : b.v = (j : Int)) (hy : evOf l b = some y) (hm : es[j]? = some m) :
    (es.set j (m ++ [(y, u)])).map (fun l => l.map (·.1)) = envV l N (bs.take (k + 1)) := by
  rw [rows_set hm, hE, envV_take hb]
  unfold stepV
  rw [hy, hj]
  simp
theorem rows_len {l : List Evt} {N : Nat} {bs : List Bnd} {k j : Nat} {es : List (List EV)} {m : List EV} (hE : es.map (fun l => l.map (·.1)) = envV l N (bs.take k)) (hm : es[j]? = some m) : m.length ≤ k := by
  have h1 : m.map (·.1) ∈ envV l N (bs.take k) := by
    rw [← hE]
    exact List.mem_map.2 ⟨m, List.mem_of_getElem? hm, rfl⟩
  have h2 := envV_row _ h1
  rw [List.length_map, List.length_take] at h2
  omega

set_option maxRecDepth 100000 in
set_option maxHeartbeats 4000000 in
theorem env_any (l : List Evt) (n : Int) (bs : List Bnd) (v vm : Value) (w : World) (hl : IsEvts w v l) (hm : IsBnds w vm bs) (hvals : ∀ e ∈ l, e.vals.length ≤ 1048576) :
    Calls Tryz.prog 22 #[v, .int .i64 n, matV vm] w (EnvRet w (envR l n bs)) := by
  have HL := Lib.hid hl
  have HM := Lib.hid hm
  have HVALS := Lib.hid hvals
  obtain ⟨A, c, rfl, -⟩ := hl
  obtain ⟨C, d, rfl, -⟩ := hm
  unfold matV
  obtain ⟨se, hse⟩ : ∃ se, strErr l = se := ⟨_, rfl⟩
  have HSE := Lib.hid hse
  obtain ⟨R, hR⟩ : ∃ R, envR l n bs = R := ⟨_, rfl⟩
  have HRR := Lib.hid hR
  rw [hR]
  clear hse hR hvals
  go_enter Tryz.func22, Tryz.ntmps22
  go_wp2_with fail
  refine calls_gen fun W1 e1 => ?_
  have x0 : W1.cell? ⟨w.heap.size, 0, none⟩ = some (.slice C bs.length d) := by rw [e1]; go_simp
  have r0 : W1.heap[w.heap.size + 1]? = some (.cells [Value.slice none 0 0].toArray 46 (0, 0)) := by rw [e1]; exact heap_new' _ _ _ (by simp)
  have hb1 : Below w.heap.size w W1 := by rw [e1]; exact (by repeat (first | exact Below.refl _ _ | assumption | refine Below.drew ?_ | refine bel_al ?_ _ | refine bel_set ?_ (by omega) _ | refine bel_tr ?_ (by assumption)))
  have hs1 : w.heap.size + 1 < W1.heap.size := by rw [e1]; simp
  clear e1
  refine (strchk_any l _ W1 (HL.out.stays evtAt_stays hb1)).mono ?_
  rw [HSE.out]
  rintro e w2 ⟨rfl, hb2⟩
  replace x0 := cell_stays hb2 x0
  replace r0 := (hb2.block (w.heap.size + 1) hs1).trans r0
  have hs2 : w.heap.size + 1 < w2.heap.size := Nat.lt_of_lt_of_le hs1 hb2.size
  have HB2 := Lib.hid (bel_tr hb1 hb2)
  clear hb1 hb2 hs1
  by_cases h0 : se = 0
  case neg =>
    have h0' : (se != 0) = true := by simpa using h0
    have HX : Hid (R = ([], se)) := Lib.hid (by rw [← HRR.out]; exact envR_err (envErr_str HSE.out h0) h0)
    have rc : w2.cell? ⟨w.heap.size + 1, 0, none⟩ = some (.slice none 0 0) := by rw [blk_cell r0]; rfl
    have rf := blk_frozen r0 0
    have rr := World.cell?_setCell_same' w2 ⟨w.heap.size + 1, 0, none⟩ (.slice none 0 0) (by rw [rc]; rfl)
    clear h0
    have HQ := Lib.hid rr
    clear rr
    go_wp2_with fail
    have rr := HQ.out
    rw [HX.out]
    exact bodyPost_ret (v := .tuple #[.agg #[.slice none 0 0], .int .i64 se]) (by simp [results, Tryz.results22, go_sem, rr]) rfl ⟨_, rfl, Sl.nil _ _ _ _ _ (Nat.zero_le _), bel_set HB2.out (by omega) _⟩
  subst h0
  obtain ⟨hok, hlen⟩ := strErr_ok HSE.out
  have HA := Lib.hid hok.asc
  clear hok
  have rc : w2.cell? ⟨w.heap.size + 1, 0, none⟩ = some (.slice none 0 0) := by rw [blk_cell r0]; rfl
  have rf := blk_frozen r0 0
  by_cases hin : inI n 16 = false
  · have HX : Hid (R = ([], 2)) := Lib.hid (by rw [← HRR.out]; exact envR_err (envErr_in HSE.out hin) (by decide))
    have rr := World.cell?_setCell_same' w2 ⟨w.heap.size + 1, 0, none⟩ (.slice none 0 0) (by rw [rc]; rfl)
    have HQ := Lib.hid rr
    clear rr
    go_wp2_with (go_at_call 49; refine (within_any _ _ _).mono ?_; rintro e w' ⟨rfl, rfl⟩)
    have rr := HQ.out
    rw [HX.out]
    exact bodyPost_ret (v := .tuple #[.agg #[.slice none 0 0], .int .i64 2]) (by simp [results, Tryz.results22, go_sem, rr]) rfl ⟨_, rfl, Sl.nil _ _ _ _ _ (Nat.zero_le _), bel_set HB2.out (by omega) _⟩
  have HIN := Lib.hid hin
  rw [Bool.not_eq_false] at hin
  obtain ⟨N, hN, hN16⟩ : ∃ N : Nat, n = (N : Int) ∧ N ≤ 16 := by
    unfold inI at hin
    simp only [Bool.and_eq_true, decide_eq_true_eq] at hin
    exact ⟨n.toNat, by omega, by omega⟩
  subst hN
  obtain ⟨me, hme⟩ : ∃ me, matErr bs = me := ⟨_, rfl⟩
  have HME := Lib.hid hme
  clear hme
  go_wp2_with (first | (go_at_call 49; refine (within_any _ _ _).mono ?_; rintro e w' ⟨rfl, rfl⟩) | fail)
  refine (mcheck_any bs _ w2 (HM.out.stays bndAt_stays HB2.out)).mono ?_
  rw [HME.out]
  rintro e w3 ⟨rfl, hb3⟩
  replace x0 := cell_stays hb3 x0
  have r3 := (hb3.block (w.heap.size + 1) hs2).trans r0
  have hs3 : w.heap.size + 1 < w3.heap.size := Nat.lt_of_lt_of_le hs2 hb3.size
  have HB3 := Lib.hid (bel_tr HB2.out hb3)
  clear hb3 rc rf r0 hs2 hin
  have rc : w3.cell? ⟨w.heap.size + 1, 0, none⟩ = some (.slice none 0 0) := by rw [blk_cell r3]; rfl
  have rf := blk_frozen r3 0
  by_cases h0 : me = 0
  case neg =>
    have h0' : (me != 0) = true := by simpa using h0
    have HX : Hid (R = ([], me)) := Lib.hid (by rw [← HRR.out]; exact envR_err (envErr_mat HSE.out HIN.out HME.out h0) h0)
    have rr := World.cell?_setCell_same' w3 ⟨w.heap.size + 1, 0, none⟩ (.slice none 0 0) (by rw [rc]; rfl)
    clear h0
    have HQ := Lib.hid rr
    clear rr
    go_wp2_with fail
    have rr := HQ.out
    rw [HX.out]
    exact bodyPost_ret (v := .tuple #[.agg #[.slice none 0 0], .int .i64 me]) (by simp [results, Tryz.results22, go_sem, rr]) rfl ⟨_, rfl, Sl.nil _ _ _ _ _ (Nat.zero_le _), bel_set HB3.out (by omega) _⟩
  subst h0
  obtain ⟨-, hbl, hbok⟩ := mat_ok HME.out
  have HBOK := Lib.hid hbok
  clear hbok
  obtain ⟨i1, hi1, hz1, hy1, -⟩ := info_parts info_evts
  have hb1 : i1.bytes = 24 := by have := info_evts; rw [hi1] at this; simp at this; exact this.2.2
  go_wp2_with (at_make; refine wpList_make_full _ rfl (.tmp 33) (.tmp 33) 44 rfl w3.heap.size 42 i1 (.slice none 0 0) 1 Tryz.underlying44 hi1 hz1 hy1 .i64 .i64 (N : Int) (N : Int) N rfl rfl rfl rfl (by rw [hb1]; omega) (by unfold maxLen; omega) (Nat.le_refl _) ?_; intro w5 hown5 hg5; have hb5 : Below w3.heap.size w3 w5 := grown_below hg5 (Nat.le_refl _) (fun _ h => by cases h); have x5 := cell_stays hb5 x0; have hlt5 : w.heap.size < w5.heap.size := (by have := hb5.size; omega); have hne5 : w.heap.size ≠ w5.heap.size := (by omega); have hne6 : w5.heap.size ≠ w.heap.size := (by omega))
  obtain ⟨Rb, hRb⟩ : ∃ Rb, w.heap.size + 1 = Rb := ⟨_, rfl⟩
  obtain ⟨G, hG⟩ : ∃ G, w3.heap.size = G := ⟨_, rfl⟩
  obtain ⟨E, hE⟩ : ∃ E, w5.heap.size = E := ⟨_, rfl⟩
  have hGr := made_row hown5
  refine wp_gen fun w0 e0 => ?_
  have hb0 : Below w5.heap.size w5 w0 := by rw [e0]; exact (by repeat (first | exact Below.refl _ _ | assumption | refine Below.drew ?_ | refine bel_al ?_ _ | refine bel_set ?_ (by omega) _ | refine bel_tr ?_ (by assumption)))
  have hE0 : w0.heap[E]? = some (.cells [Value.slice (some ⟨G, 0, none⟩) N N].toArray 46 (0, 0)) := by rw [e0, ← hE, ← hG]; exact heap_new' _ _ _ rfl
  have hs0 : E + 1 ≤ w0.heap.size := by rw [e0, ← hE]; simp
  have hGE : G < E := by rw [← hG, ← hE]; exact blk_lt hGr
  have hV0 : VarsW w.heap.size (E + 1) G w0 (List.replicate N (.slice none 0 0)) (List.replicate N []) := varsW_made ((hb0.block G (by omega)).trans (hG ▸ hGr)) ⟨by omega, by omega⟩
  have hR0 : w0.heap[Rb]? = some (.cells [Value.slice none 0 0].toArray 46 (0, 0)) := (hb0.block Rb (by omega)).trans ((hb5.block Rb (by omega)).trans (hRb ▸ r3))
  have hbw0 : Below w.heap.size w w0 := bel_tr HB3.out (bel_tr hb5 hb0)
  have hRG : w.heap.size < Rb ∧ Rb < G := by omega
  have HV0 := Lib.hid hV0
  have HER := Lib.hid (And.intro hE0 hR0)
  have HBW0 := Lib.hid hbw0
  rw [hRb, hG, hE]
  clear e0 hb0 hE0 hV0 hR0 hbw0 hGr hown5 hg5 hb5 x5 hlt5 hne5 hne6 x0 r3 rc rf hRb hG hE hs3 hi1 hz1 hy1 hb1 HB2 HB3
  go_loopw [39] (fun i wr => ∃ (k : Nat) (vs : List Value) (es : List (List EV)), k ≤ bs.length ∧ i = .int .i64 k ∧ Hid (scanE (fun _ b => envE1 l N b) (prevL bs k) (bs.drop k) = scanE (fun _ b => envE1 l N b) none bs ∧ VarsW w.heap.size (E + 1) G wr vs es ∧ es.map (fun l => l.map (·.1)) = envV l N (bs.take k) ∧ wr.heap[E]? = some (.cells [Value.slice (some ⟨G, 0, none⟩) N N].toArray 46 (0, 0)) ∧ wr.heap[Rb]? = some (.cells [Value.slice none 0 0].toArray 46 (0, 0)) ∧ Below w.heap.size w wr ∧ E + 1 ≤ wr.heap.size)) (fun i _ => bs.length - (intOf i).toNat)
  case atStart => exact ⟨0, _, _, Nat.zero_le _, rfl, Lib.hid ⟨rfl, HV0.out, by simp [envV], HER.out.1, HER.out.2, HBW0.out, hs0⟩⟩
  case round =>
    obtain ⟨k, vs, es, hk, rfl, hI⟩ := hrel
    have hbr := hI.out.2.2.2.2.2.1
    have hEr := hI.out.2.2.2.2.2.2
    have rc : wr.cell? ⟨Rb, 0, none⟩ = some (.slice none 0 0) := by rw [blk_cell hI.out.2.2.2.2.1]; rfl
    have rf := blk_frozen hI.out.2.2.2.2.1 0
    have ec : wr.cell? ⟨E, 0, none⟩ = some (.slice (some ⟨G, 0, none⟩) N N) := by rw [blk_cell hI.out.2.2.2.1]; rfl
    by_cases hlt : k < bs.length
    · have hk' : (k : Int) < (bs.length : Int) := by omega
      obtain ⟨_, _, hCe, -, -, hat⟩ := HM.out
      injection hCe with hCe _ hde
      clear hde
      obtain ⟨b, o, hC, c0, c1, c2, c3⟩ := hat k bs[k] (List.getElem?_eq_getElem hlt)
      rw [← hCe] at hC
      clear hCe hat
      subst hC
      replace c0 := cell_stays hbr c0
      replace c1 := cell_stays hbr c1
      replace c2 := cell_stays hbr c2
      replace c3 := cell_stays hbr c3
      have hget := Lib.hid (List.getElem?_eq_getElem hlt)
      have hxok := bndOk_v (HBOK.out bs[k] (List.getElem_mem hlt))
      obtain ⟨x, hx⟩ : ∃ x, x = bs[k] := ⟨_, rfl⟩
      rw [← hx] at hget c0 c1 c2 c3 hxok
      clear hx
      obtain ⟨j, hj⟩ : ∃ j : Nat, x.v = (j : Int) := ⟨x.v.toNat, by omega⟩
      have HJ := Lib.hid hj
      rw [hj] at c0 hxok
      clear hj
      have hbl : b < wr.heap.size := World.block_lt_of_cell? wr ⟨b, _, none⟩ c0
      have hnb : b ≠ wr.heap.size := by omega
      have hnb' : wr.heap.size ≠ b := by omega
      have hnR : Rb ≠ wr.heap.size := by omega
      have hnR' : wr.heap.size ≠ Rb := by omega
      by_cases hv : (N : Int) ≤ (j : Int)
      · have HE : Hid (R = ([], 10)) := Lib.hid (by
          rw [← HRR.out]
          exact envR_err ((envErr_scan HSE.out HIN.out HME.out).trans (scan_stop hget.out hI.out.1 (envE1_10 (by rw [HJ.out]; exact hv)) (by decide)).symm) (by decide))
        have hRl : Rb < wr.heap.size := by omega
        have hcr : ∀ ob, (wr.alloc ob).cell? ⟨Rb, 0, none⟩ = some (.slice none 0 0) := fun ob => cell_stays (bel_one wr ob) rc
        have hfr : ∀ ob, (wr.alloc ob).frozen? ⟨Rb, 0, none⟩ = false := fun ob => (World.frozen?_of_block (a := ⟨Rb, 0, none⟩) (Below.heap_alloc wr ob Rb hRl)).trans rf
        go_wp2_with fail
        have rr := cell_stays (bel_one (wr.setCell ⟨Rb, 0, none⟩ (.slice none 0 0)) (.cells #[.int .i64 (j : Int), .int .i64 x.t, .int .i64 x.s, .int .i64 x.n] 79)) (World.cell?_setCell_same' wr ⟨Rb, 0, none⟩ (.slice none 0 0) (by rw [rc]; rfl))
        rw [HE.out]
        exact bodyPost_ret (v := .tuple #[.agg #[.slice none 0 0], .int .i64 10]) (by simp [results, Tryz.results22, go_sem, rr]) rfl ⟨_, rfl, Sl.nil _ _ _ _ _ (Nat.zero_le _), bel_al (bel_set hbr (by omega) _) _⟩
      · have hjN : j < N := by omega
        have hv' : ¬ (N : Int) ≤ (j : Int) := hv
        go_wp2_with fail
        refine calls_gen fun W6 e6 => ?_
        obtain ⟨T, hT⟩ : ∃ T, wr.heap.size = T := ⟨_, rfl⟩
        have t0 : W6.cell? ⟨T, 0, none⟩ = some (.int .i64 (j : Int)) := by rw [e6, ← hT]; go_simp
        have hb6 : Below wr.heap.size wr W6 := by rw [e6]; exact (by repeat (first | exact Below.refl _ _ | assumption | refine Below.drew ?_ | refine bel_al ?_ _ | refine bel_set ?_ (by omega) _ | refine bel_tr ?_ (by assumption)))
        have hT6 : T < W6.heap.size := by rw [e6, ← hT]; simp
        have hET : E < T := by omega
        rw [hT]
        clear e6 c0 c1 c2 c3 hbl hnb hnb' hnR hnR'
        refine (find_any l x _ W6 (HL.out.stays evtAt_stays (bel_tr hbr hb6)) HSE.out).mono ?_
        rintro e w7 ⟨rfl, hb7⟩
        replace t0 := cell_stays hb7 t0
        have hb67 := bel_tr hb6 hb7
        have hT7 : T < w7.heap.size := Nat.lt_of_lt_of_le hT6 hb7.size
        replace rc := cell_stays hb67 rc
        replace rf : w7.frozen? ⟨Rb, 0, none⟩ = false := (World.frozen?_of_block (a := ⟨Rb, 0, none⟩) (hb67.block Rb (by omega))).trans rf
        have hVW := hI.out.2.1.grow hb67
        have HI7 : Hid (∀ (q : Nat) (u : Value) (m : List EV), vs[q]? = some u → es[q]? = some m → ∀ h, u.ownBlock = some h → h < T) := Lib.hid fun q u m h1 h2 h hh => by have := (ownsRow_lt (hI.out.2.1.row q u m h1 h2) hh).2; omega
        replace ec := cell_stays hb67 ec
        obtain ⟨low, hlow⟩ : ∃ low, lowE l x = low := ⟨_, rfl⟩
        have HLOW := Lib.hid hlow
        have HB7 := Lib.hid (bel_tr hbr hb67)
        have HER7 := Lib.hid (And.intro ((hb67.block E (by omega)).trans hI.out.2.2.2.1) ((hb67.block Rb (by omega)).trans hI.out.2.2.2.2.1))
        have HVW := Lib.hid hVW
        have hE7 : E + 1 ≤ w7.heap.size := by omega
        obtain ⟨ht, hht⟩ : ∃ ht, hitE l x = ht := ⟨_, rfl⟩
        have HHT := Lib.hid hht
        rw [hlow, hht]
        clear hb6 hb7 hVW hlow hht hT
        cases ht
        · have HEV : Hid (evOf l x = none) := Lib.hid (hit_none HA.out fun e he => by
            have h1 := HHT.out
            unfold hitE at h1
            rw [he] at h1
            exact h1)
          have HE : Hid (R = ([], 6)) := Lib.hid (by
            rw [← HRR.out]
            exact envR_err ((envErr_scan HSE.out HIN.out HME.out).trans (scan_stop hget.out hI.out.1 (envE1_6 (by rw [HJ.out]; omega) HEV.out) (by decide)).symm) (by decide))
          have rr := World.cell?_setCell_same' w7 ⟨Rb, 0, none⟩ (.slice none 0 0) (by rw [rc]; rfl)
          have HQ := Lib.hid rr
          clear rr
          go_wp2_with fail
          have rr := HQ.out
          rw [HE.out]
          exact bodyPost_ret (v := .tuple #[.agg #[.slice none 0 0], .int .i64 6]) (by simp [results, Tryz.results22, go_sem, rr]) rfl ⟨_, rfl, Sl.nil _ _ _ _ _ (Nat.zero_le _), bel_set HB7.out (by omega) _⟩
        · obtain ⟨y, hy, hyr⟩ : ∃ y, l[low]? = some y ∧ refEq (eRef y) x = true := by
            have h1 := HHT.out
            unfold hitE at h1
            rw [HLOW.out] at h1
            cases hy : l[low]? with
            | none => rw [hy] at h1; cases h1
            | some y => rw [hy] at h1; exact ⟨y, rfl, h1⟩
          have HEV : Hid (evOf l x = some y) := Lib.hid (hit_some HA.out (by rw [HLOW.out]; exact hy) hyr)
          have hll : low < l.length := (List.getElem?_eq_some_iff.1 hy).1
          have hll' : (low : Int) < (l.length : Int) := by omega
          obtain ⟨_, cc, hAe, -, -, hat⟩ := HL.out
          injection hAe with hAe _ hce
          obtain ⟨b2, o2, hA2, vy, hvy, d0, d1, d2, d3, d4⟩ := hat low y hy
          rw [← hAe] at hA2
          clear hAe hat hce
          subst hA2
          have HVY := Lib.hid hvy
          obtain ⟨A2, cy, rfl, -⟩ := hvy
          replace d0 := cell_stays HB7.out d0
          replace d1 := cell_stays HB7.out d1
          replace d2 := cell_stays HB7.out d2
          replace d3 := cell_stays HB7.out d3
          replace d4 := cell_stays HB7.out d4
          have hyv := HVALS.out y (List.mem_of_getElem? hy)
          clear hyr hy
          have hb2l : b2 < w7.heap.size := World.block_lt_of_cell? w7 ⟨b2, _, none⟩ d0
          have hnb : b2 ≠ w7.heap.size := by omega
          have hnb' : w7.heap.size ≠ b2 := by omega
          go_wp2_with fail
          refine calls_gen fun W8 e8 => ?_
          obtain ⟨X, hX⟩ : ∃ X, w7.heap.size = X := ⟨_, rfl⟩
          have hX8 : W8.heap[X]? = some (.cells [Value.int .i64 y.src, .int .i64 y.sq, .int .i64 y.ty, .int .i64 y.tm, .slice A2 y.vals.length cy].toArray 71 (0, 0)) := by rw [e8, ← hX]; exact heap_new' _ _ _ rfl
          have hb8 : Below w7.heap.size w7 W8 := by rw [e8]; exact (by repeat (first | exact Below.refl _ _ | assumption | refine Below.drew ?_ | refine bel_al ?_ _ | refine bel_set ?_ (by omega) _ | refine bel_tr ?_ (by assumption)))
          rw [hX]
          clear e8 d0 d1 d2 d3 d4 hnb hnb' hb2l
          refine (cloneV_any y.vals _ W8 (HVY.out.stays vlAt_stays (bel_tr HB7.out hb8)) hyv).mono ?_
          rintro e w9 ⟨v9, rfl, hnv9, hb9⟩
          obtain ⟨A9, c9, hv9⟩ := sl_form hnv9.1
          subst hv9
          have hX9 := (hb9.block X (blk_lt hX8)).trans hX8
          have z4' : w9.cell? ⟨X, 4, none⟩ = some (.slice A2 y.vals.length cy) := by rw [blk_cell hX9]; rfl
          have zf := blk_frozen hX9 4
          have hb79 := bel_tr hb8 hb9
          have hX10 := blk_set hX9 4 (.slice A9 y.vals.length c9)
          have hb710 : Below w7.heap.size w7 (w9.setCell ⟨X, 4, none⟩ (.slice A9 y.vals.length c9)) := bel_set hb79 (by omega) _
          have hXl := blk_lt hX9
          have hnv10 : Hid (NewVls W8.heap.size (w9.setCell ⟨X, 4, none⟩ (.slice A9 y.vals.length c9)) (.slice A9 y.vals.length c9) y.vals) := Lib.hid ⟨vls_kept hnv9.1 fun _ g _ hg => Below.heap_setCell w9 ⟨X, 4, none⟩ _ g (by have := (hnv9.2 g hg).1; have := blk_lt hX8; simp only; omega), fun g hg => by have := hnv9.2 g hg; simpa using this⟩
          have HX10 := Lib.hid hX10
          have HB710 := Lib.hid hb710
          have hW8 : w7.heap.size ≤ W8.heap.size := hb8.size
          clear hnv9 hX10 hb710 hX8 hb8 hb9 hX9
          go_wp2_with fail
          refine wp_gen fun W10 e10 => ?_
          have hX10 := HX10.out
          have hb710 := HB710.out
          have hnv10' := hnv10.out
          rw [← e10] at hX10 hb710 hnv10'
          have HNV := Lib.hid hnv10'
          have hsz10 : X < W10.heap.size := blk_lt hX10
          clear e10 hnv10 HX10 HB710 hnv10' z4' zf hb79 hXl
          simp only [List.set_cons_succ, List.set_cons_zero] at hX10
          have z0 : W10.cell? ⟨X, 0, none⟩ = some (.int .i64 y.src) := by rw [blk_cell hX10]; rfl
          have z1 : W10.cell? ⟨X, 1, none⟩ = some (.int .i64 y.sq) := by rw [blk_cell hX10]; rfl
          have z2 : W10.cell? ⟨X, 2, none⟩ = some (.int .i64 y.ty) := by rw [blk_cell hX10]; rfl
          have z3 : W10.cell? ⟨X, 3, none⟩ = some (.int .i64 y.tm) := by rw [blk_cell hX10]; rfl
          have z4 : W10.cell? ⟨X, 4, none⟩ = some (.slice A9 y.vals.length c9) := by rw [blk_cell hX10]; rfl
          replace ec := cell_stays hb710 ec
          replace t0 := cell_stays hb710 t0
          have hVX := HVW.out.grow hb710
          have hes : es.length = N := by have := congrArg List.length hI.out.2.2.1; rw [List.length_map, envV_len] at this; exact this
          obtain ⟨m, hm⟩ : ∃ m, es[j]? = some m := ⟨_, List.getElem?_eq_getElem (by omega)⟩
          obtain ⟨u, hu⟩ : ∃ u, vs[j]? = some u := ⟨_, List.getElem?_eq_getElem (by rw [hVX.len]; omega)⟩
          have hrow := hVX.row j u m hu hm
          have hrow7 := HVW.out.row j u m hu hm
          obtain ⟨Av, cv, hav⟩ := slice_own hrow
          subst hav
          have gc : W10.cell? ⟨G, j, none⟩ = some (.slice Av m.length cv) := by rw [blk_cell hVX.blk]; exact hu
          have gf := blk_frozen hVX.blk j
          have hmk := rows_len hI.out.2.2.1 hm
          have HROW := Lib.hid hrow
          have HVX := Lib.hid hVX
          have HUM := Lib.hid (And.intro hu hm)
          have HTX : Hid (∀ h, (Value.slice Av m.length cv).ownBlock = some h → T ≠ h ∧ X ≠ h) := Lib.hid fun h hh => by
            have h1 := ownsRow_lt hrow7 hh
            have h2 := hVX.row j _ m hu hm
            refine ⟨fun e => ?_, by omega⟩
            have h3 := HI7.out j _ m hu hm h hh
            omega
          obtain ⟨j0, hj0, hy0, hy1, hy2⟩ := info_parts info_evt
          have hG10 := blk_lt hVX.blk
          have hTs : T < W10.heap.size := by have := hb710.size; omega
          have hEs : E + 1 ≤ W10.heap.size := by have := hb710.size; omega
          clear hrow hrow7 hVX hu hm hX10
          refine wp_region_noPanic ?_
          refine wp_region_P (fun W => W.cell? ⟨E, 0, none⟩ = some (.slice (some ⟨G, 0, none⟩) N N) ∧ W.cell? ⟨T, 0, none⟩ = some (.int .i64 (j : Int)) ∧ W.cell? ⟨G, j, none⟩ = some (.slice Av m.length cv) ∧ W.cell? ⟨X, 0, none⟩ = some (.int .i64 y.src) ∧ W.cell? ⟨X, 1, none⟩ = some (.int .i64 y.sq) ∧ W.cell? ⟨X, 2, none⟩ = some (.int .i64 y.ty) ∧ W.cell? ⟨X, 3, none⟩ = some (.int .i64 y.tm) ∧ W.cell? ⟨X, 4, none⟩ = some (.slice A9 y.vals.length c9)) 13 (by kernel_rfl) (⟨ec, t0, gc, z0, z1, z2, z3, z4⟩) (fun hHeld => ?_)
          focus (refine wpAnyP_take (i := 0) (v := ?_) rfl (by kernel_rfl) (by kernel_rfl) (by kernel_rfl) (by kernel_rfl) (fun _ _ _ h => h) (Or.inl ⟨by rfl, ?_⟩) (by assumption) ?_; rotate_left 1; focus (intro wS hSw; (try dsimp only at hSw); go_simp <;> with_reducible rfl); try simp only [Act.put, List.setIfInBounds_toArray, List.set_cons_zero, List.set_cons_succ])
          focus (refine wpAnyP_take (i := 1) (v := ?_) rfl (by kernel_rfl) (by kernel_rfl) (by kernel_rfl) (by kernel_rfl) (fun _ _ _ h => h) (Or.inl ⟨by rfl, ?_⟩) (by assumption) ?_; rotate_left 1; focus (intro wS hSw; (try dsimp only at hSw); go_simp <;> with_reducible rfl); try simp only [Act.put, List.setIfInBounds_toArray, List.set_cons_zero, List.set_cons_succ])
          focus (refine wpAnyP_take (i := 2) (v := ?_) rfl (by kernel_rfl) (by kernel_rfl) (by kernel_rfl) (by kernel_rfl) (fun _ _ _ h => h) (Or.inl ⟨by rfl, ?_⟩) (by assumption) ?_; rotate_left 1; focus (intro wS hSw; (try dsimp only at hSw); go_simp <;> with_reducible rfl); try simp only [Act.put, List.setIfInBounds_toArray, List.set_cons_zero, List.set_cons_succ])
          focus (refine wpAnyP_take (i := 3) (v := ?_) rfl (by kernel_rfl) (by kernel_rfl) (by kernel_rfl) (by kernel_rfl) (fun _ _ _ h => h) (Or.inl ⟨by rfl, ?_⟩) (by assumption) ?_; rotate_left 1; focus (intro wS hSw; (try dsimp only at hSw); go_simp <;> with_reducible rfl); try simp only [Act.put, List.setIfInBounds_toArray, List.set_cons_zero, List.set_cons_succ])
          focus (refine wpAnyP_take (i := 4) (v := ?_) rfl (by kernel_rfl) (by kernel_rfl) (by kernel_rfl) (by kernel_rfl) (fun _ _ _ h => h) (Or.inl ⟨by rfl, ?_⟩) (by assumption) ?_; rotate_left 1; focus (intro wS hSw; (try dsimp only at hSw); go_simp <;> with_reducible rfl); try simp only [Act.put, List.setIfInBounds_toArray, List.set_cons_zero, List.set_cons_succ])
          focus (refine wpAnyP_take (i := 5) (v := ?_) rfl (by kernel_rfl) (by kernel_rfl) (by kernel_rfl) (by kernel_rfl) (fun _ _ _ h => h) (Or.inl ⟨by rfl, ?_⟩) (by assumption) ?_; rotate_left 1; focus (intro wS hSw; (try dsimp only at hSw); go_simp <;> with_reducible rfl); try simp only [Act.put, List.setIfInBounds_toArray, List.set_cons_zero, List.set_cons_succ])
          focus (refine wpAnyP_take (i := 6) (v := ?_) rfl (by kernel_rfl) (by kernel_rfl) (by kernel_rfl) (by kernel_rfl) (fun _ _ _ h => h) (Or.inl ⟨by rfl, ?_⟩) (by assumption) ?_; rotate_left 1; focus (intro wS hSw; (try dsimp only at hSw); go_simp <;> with_reducible rfl); try simp only [Act.put, List.setIfInBounds_toArray, List.set_cons_zero, List.set_cons_succ])
          focus (refine wpAnyP_take (i := 7) (v := ?_) rfl (by kernel_rfl) (by kernel_rfl) (by kernel_rfl) (by kernel_rfl) (fun _ _ _ h => h) (Or.inl ⟨by rfl, ?_⟩) (by assumption) ?_; rotate_left 1; focus (intro wS hSw; (try dsimp only at hSw); go_simp <;> with_reducible rfl); try simp only [Act.put, List.setIfInBounds_toArray, List.set_cons_zero, List.set_cons_succ])
          focus (refine wpAnyP_take (i := 8) (v := ?_) rfl (by kernel_rfl) (by kernel_rfl) (by kernel_rfl) (by kernel_rfl) (fun _ _ _ h => h) (Or.inl ⟨by rfl, ?_⟩) (by assumption) ?_; rotate_left 1; focus (intro wS hSw; (try dsimp only at hSw); go_simp <;> with_reducible rfl); try simp only [Act.put, List.setIfInBounds_toArray, List.set_cons_zero, List.set_cons_succ])
          focus (refine wpAnyP_take (i := 9) (v := ?_) rfl (by kernel_rfl) (by kernel_rfl) (by kernel_rfl) (by kernel_rfl) (fun _ _ _ h => h) (Or.inl ⟨by rfl, ?_⟩) (by assumption) ?_; rotate_left 1; focus (intro wS hSw; (try dsimp only at hSw); go_simp <;> with_reducible rfl); try simp only [Act.put, List.setIfInBounds_toArray, List.set_cons_zero, List.set_cons_succ])
          focus (refine wpAnyP_take (i := 10) (v := ?_) rfl (by kernel_rfl) (by kernel_rfl) (by kernel_rfl) (by kernel_rfl) (fun _ _ _ h => h) (Or.inl ⟨by rfl, ?_⟩) (by assumption) ?_; rotate_left 1; focus (intro wS hSw; (try dsimp only at hSw); go_simp <;> with_reducible rfl); try simp only [Act.put, List.setIfInBounds_toArray, List.set_cons_zero, List.set_cons_succ])
          refine wpAnyP_ready (rs := [11]) (by kernel_rfl) (by simp) (by kernel_rfl) ?_
          refine AllReadyP.cons rfl (fun K hK => ?_) ?_
          go_simp
          refine hK.out _ _ (⟨cell_stays (bel_one _ _) ec, cell_stays (bel_one _ _) t0, cell_stays (bel_one _ _) gc, cell_stays (bel_one _ _) z0, cell_stays (bel_one _ _) z1, cell_stays (bel_one _ _) z2, cell_stays (bel_one _ _) z3, cell_stays (bel_one _ _) z4⟩) (fun hHeld => ?_)
          clear hK K
          try simp only [Act.put, List.setIfInBounds_toArray, List.set_cons_zero, List.set_cons_succ]
          refine wpAnyP_ready (rs := [12]) (by kernel_rfl) (by simp) (by kernel_rfl) ?_
          refine AllReadyP.cons rfl (fun K hK => ?_) ?_
          focus (refine step_app _ (by rfl) (.tmp 76) (.tmp 78) 42 (by rfl) (E + 1) 71 j0 _ 5 56 Tryz.underlying42 hj0 hy0 hy1 hy2 rfl (by decide) (.slice Av m.length cv) m.length (evCells m) (by rfl) (ownsRow_below HROW.out (by repeat (first | exact Below.refl _ _ | assumption | refine Below.drew ?_ | refine bel_al ?_ _ | refine bel_set ?_ (by omega) _ | refine bel_tr ?_ (by assumption)))) (some ⟨W10.heap.size, 0, none⟩) 1 1 [.int .i64 y.src, .int .i64 y.sq, .int .i64 y.ty, .int .i64 y.tm, .slice A9 y.vals.length c9] (by rfl) (Src.stays (src_new W10 [.int .i64 y.src, .int .i64 y.sq, .int .i64 y.ty, .int .i64 y.tm, .slice A9 y.vals.length c9] 71 1 5 rfl (by simp [Value.oneCell'])) (by repeat (first | exact Below.refl _ _ | assumption | refine Below.drew ?_ | refine bel_al ?_ _ | refine bel_set ?_ (by omega) _ | refine bel_tr ?_ (by assumption)))) (by unfold maxLen; omega) (by omega) (by simp; omega) ?_; intro v12 w12 hown12 hg12 hloc12; obtain ⟨A12, c12, hv12⟩ := slice_own hown12; subst hv12; have hk12 : ∀ q, q < W10.heap.size → (∀ h, (Value.slice Av m.length cv).ownBlock = some h → q ≠ h) → w12.heap[q]? = W10.heap[q]? := (fun q hq hne => (hg12.block q (by simp; omega) (fun e => hne q e.symm rfl)).trans (Below.heap_alloc W10 _ q hq)); have hnE : ∀ h, (Value.slice Av m.length cv).ownBlock = some h → E ≠ h := (fun h hh => by have := (ownsRow_lt HROW.out hh).1; omega); have hnG : ∀ h, (Value.slice Av m.length cv).ownBlock = some h → G ≠ h := (fun h hh => by have := (ownsRow_lt HROW.out hh).1; omega); have hnT : ∀ h, (Value.slice Av m.length cv).ownBlock = some h → T ≠ h := (fun h hh => (HTX.out h hh).1); have hnX : ∀ h, (Value.slice Av m.length cv).ownBlock = some h → X ≠ h := (fun h hh => (HTX.out h hh).2); have gf12 : w12.frozen? ⟨G, j, none⟩ = false := (World.frozen?_of_block (a := ⟨G, j, none⟩) (hk12 G (by omega) hnG)).trans gf; have gc12 : w12.cell? ⟨G, j, none⟩ = some (.slice Av m.length cv) := (World.cell?_of_block (a := ⟨G, j, none⟩) (hk12 G (by omega) hnG)).trans gc)
          refine hK.out _ _ (⟨(World.cell?_of_block (a := ⟨E, 0, none⟩) (hk12 E (by omega) hnE)).trans ec, (World.cell?_of_block (a := ⟨T, 0, none⟩) (hk12 T (by omega) hnT)).trans t0, (World.cell?_of_block (a := ⟨G, j, none⟩) (hk12 G (by omega) hnG)).trans gc, (World.cell?_of_block (a := ⟨X, 0, none⟩) (hk12 X (by omega) hnX)).trans z0, (World.cell?_of_block (a := ⟨X, 1, none⟩) (hk12 X (by omega) hnX)).trans z1, (World.cell?_of_block (a := ⟨X, 2, none⟩) (hk12 X (by omega) hnX)).trans z2, (World.cell?_of_block (a := ⟨X, 3, none⟩) (hk12 X (by omega) hnX)).trans z3, (World.cell?_of_block (a := ⟨X, 4, none⟩) (hk12 X (by omega) hnX)).trans z4⟩) (fun hHeld => ?_)
          clear hK K
          try simp only [Act.put, List.setIfInBounds_toArray]
          focus (refine wpAnyP_end (v := ?_) rfl (by kernel_rfl) (by kernel_rfl) (Or.inl ⟨by rfl, ?_⟩) ?_ (by kernel_rfl); rotate_left 1; focus (intro wS _; go_simp <;> with_reducible rfl); try simp only [Act.put, List.setIfInBounds_toArray, List.set_cons_zero, List.set_cons_succ])
          refine wpAny_last (i := 14) rfl (by kernel_rfl) (by kernel_rfl) (fun K hK => ?_)
          go_simp
          refine hK.out _ _ (NoPanic.normal ?_)
          clear hK K
          rotate_left 1
          exact AllReadyP.nil
          exact AllReadyP.nil
          have hBN : Below w.heap.size w w12 := Below.trans (bel_tr (bel_tr HB7.out hb710) (by exact (by repeat (first | exact Below.refl _ _ | assumption | refine Below.drew ?_ | refine bel_al ?_ _ | refine bel_set ?_ (by omega) _ | refine bel_tr ?_ (by assumption))))) (grown_below (B := w.heap.size) hg12 (by have := HB7.out.size; have := hb710.size; simp only [World.size_alloc, World.size_drew]; omega) (fun h hh => by have := (ownsRow_lt HROW.out hh).1; omega))
          have hVN := VarsW.app (x := y) (u := .slice A9 y.vals.length c9) (HVX.out.grow (by exact (by repeat (first | exact Below.refl _ _ | assumption | refine Below.drew ?_ | refine bel_al ?_ _ | refine bel_set ?_ (by omega) _ | refine bel_tr ?_ (by assumption))))) HUM.out.1 HUM.out.2 (by simp; omega) hown12 hg12 hloc12 (HNV.out.1.stays vlAt_stays (by exact (by repeat (first | exact Below.refl _ _ | assumption | refine Below.drew ?_ | refine bel_al ?_ _ | refine bel_set ?_ (by omega) _ | refine bel_tr ?_ (by assumption))))) (fun _ h hh => ⟨.inr (by have := (HNV.out.2 h hh).1; omega), fun v hv e => by
            obtain ⟨q, hq⟩ := List.mem_iff_getElem?.1 hv
            have hq2 : q < es.length := by rw [← HVX.out.len]; exact getD_of hq
            have h1 := HI7.out q v es[q] hq (List.getElem?_eq_getElem hq2) h e
            have h2 := (HNV.out.2 h hh).1
            omega⟩)
          have hER12 : Hid (w12.heap[E]? = some (.cells [Value.slice (some ⟨G, 0, none⟩) N N].toArray 46 (0, 0)) ∧ w12.heap[Rb]? = some (.cells [Value.slice none 0 0].toArray 46 (0, 0))) := Lib.hid ⟨(hk12 E (by omega) hnE).trans ((hb710.block E (by omega)).trans HER7.out.1), (hk12 Rb (by omega) (fun h hh => by have := (ownsRow_lt HROW.out hh).1; omega)).trans ((hb710.block Rb (by omega)).trans HER7.out.2)⟩
          have hs12 : E + 1 ≤ w12.heap.size := by have := hg12.size; simp at this; omega
          have HBN := Lib.hid hBN
          have HVN := Lib.hid hVN
          clear hBN hVN hown12 hg12 hloc12 hk12 hnE hnG hnT hnX
          go_wp2_with fail
          go_roundw
          case rel =>
            exact ⟨k + 1, _, _, by omega, by go_num, Lib.hid ⟨scan_go hget.out hI.out.1 (envE1_0 (by rw [HJ.out]; omega) HEV.out), HVN.out, rows_step hI.out.2.2.1 hget.out HJ.out HEV.out HUM.out.2, (Below.heap_setCell w12 ⟨G, j, none⟩ _ E (by simp only; omega)).trans hER12.out.1, (Below.heap_setCell w12 ⟨G, j, none⟩ _ Rb (by simp only; omega)).trans hER12.out.2, bel_set HBN.out (by omega) _, by simpa using hs12⟩⟩
          case measure => simp [intOf]; omega
    · have hk' : ¬ (k : Int) < (bs.length : Int) := by omega
      have hke : k = bs.length := by omega
      have hI1 := hI.out
      rw [hke, List.take_length] at hI1
      have hes : es.length = N := by have := congrArg List.length hI1.2.2.1; rw [List.length_map, envV_len] at this; exact this
      have HE : Hid (R = (es.map (fun l => l.map (·.1)), 0)) := Lib.hid (by
        rw [← HRR.out, envR_ok ((envErr_scan HSE.out HIN.out HME.out).trans (scan_end (Nat.le_refl _) hI1.1).symm), hI1.2.2.1]
        rfl)
      have hVF := (hI1.2.1.set (R := Rb) ⟨by omega, by omega⟩ (by omega) 0 (.slice (some ⟨G, 0, none⟩) N N)).is (by rw [hes]; unfold maxLen; omega)
      rw [hes] at hVF
      have rr := World.cell?_setCell_same' wr ⟨Rb, 0, none⟩ (.slice (some ⟨G, 0, none⟩) N N) (by rw [rc]; rfl)
      have HVF := Lib.hid hVF
      have HQ := Lib.hid rr
      clear hI hI1 hke hes hVF rr
      go_wp2_with fail
      have rr := HQ.out
      rw [HE.out]
      exact bodyPost_ret (v := .tuple #[.agg #[.slice (some ⟨G, 0, none⟩) N N], .int .i64 0]) (by simp [results, Tryz.results22, go_sem, rr]) rfl ⟨_, rfl, HVF.out, bel_set hbr (by omega) _⟩
end Go.Proofs.YtclpglgigpjfoaaGreatDoor
namespace Go.Proofs.YtclpglgigpjfoaaGreatDoor
open Go.RowKit

/-- what ref17.Event hands back -/
def EvOut (w : World) (v : Value) (l : List Evt) (o : Option Evt) (e : Ending) (W : World) : Prop :=
  ∃ (x : Evt) (A : Option Addr) (c : Nat), e = .returned (.tuple #[evtV x (.slice A x.vals.length c), .bool o.isSome]) ∧ (∀ w0 : World, Below w0.heap.size w0 w → IsEvts w0 v l → IsVls w0 (.slice A x.vals.length c) x.vals) ∧ (∀ y, o = some y → x = y) ∧ Below w.heap.size w W
theorem evOf_hit {l : List Evt} {r : Bnd} {k : Nat} {x : Evt} (h : l[k]? = some x) (hx : refEq (eRef x) r = true) : evOf (l.drop k) r = some x := by
  obtain ⟨hk, rfl⟩ := List.getElem?_eq_some_iff.1 h
  unfold evOf
  rw [List.drop_eq_getElem_cons hk, List.find?_cons_of_pos]
  rw [refEq_iff] at hx
  exact hx
theorem evOf_miss {l : List Evt} {r : Bnd} {k : Nat} {x : Evt} (h : l[k]? = some x) (hx : refEq (eRef x) r = false) : evOf (l.drop k) r = evOf (l.drop (k + 1)) r := by
  obtain ⟨hk, rfl⟩ := List.getElem?_eq_some_iff.1 h
  unfold evOf
  rw [List.drop_eq_getElem_cons hk, List.find?_cons_of_neg]
  rw [refEq_iff] at hx
  simpa using hx
theorem five_set {w : World} {g : Nat} {t : TypeId} {u0 u1 u2 u3 u4 : Value} (h : w.heap[g]? = some (.cells [u0, u1, u2, u3, u4].toArray t (0, 0))) (a0 a1 a2 a3 a4 : Value) :
    (((((w.setCell ⟨g, 0, none⟩ a0).setCell ⟨g, 1, none⟩ a1).setCell ⟨g, 2, none⟩ a2).setCell ⟨g, 3, none⟩ a3).setCell ⟨g, 4, none⟩ a4).heap[g]? = some (.cells [a0, a1, a2, a3, a4].toArray t (0, 0)) :=
  blk_set (blk_set (blk_set (blk_set (blk_set h 0 a0) 1 a1) 2 a2) 3 a3) 4 a4
theorem five_below {w : World} {g : Nat} {w' : World} (h : Below w.heap.size w w') (hg : w.heap.size ≤ g) (a0 a1 a2 a3 a4 : Value) :
    Below w.heap.size w (((((w'.setCell ⟨g, 0, none⟩ a0).setCell ⟨g, 1, none⟩ a1).setCell ⟨g, 2, none⟩ a2).setCell ⟨g, 3, none⟩ a3).setCell ⟨g, 4, none⟩ a4) :=
  bel_set (bel_set (bel_set (bel_set (bel_set h hg _) hg _) hg _) hg _) hg _
def zeroE : Evt := ⟨0, 0, 0, 0, []⟩

set_option maxRecDepth 100000 in
set_option maxHeartbeats 2000000 in
theorem revent_any (l : List Evt) (r : Bnd) (v : Value) (w : World) (hl : IsEvts w v l) :
    Calls Tryz.prog 66 #[v, refV r] w (EvOut w v l (evOf l r)) := by
  obtain ⟨A, c, rfl, h1, h2, hat⟩ := hl
  have hn := len_i64 h1 h2
  have HL := Lib.hid hat
  clear hat h1 h2
  obtain ⟨o, ho⟩ : ∃ o, evOf l r = o := ⟨_, rfl⟩
  have HO := Lib.hid ho
  rw [ho]
  clear ho
  unfold refV
  go_enter Tryz.func66, Tryz.ntmps66
  go_wp2_with fail
  refine wp_gen fun w0 e0 => ?_
  have hb0 : Below w.heap.size w w0 := by rw [e0]; exact (by repeat (first | exact Below.refl _ _ | assumption | refine Below.drew ?_ | refine bel_al ?_ _ | refine bel_set ?_ (by omega) _ | refine bel_tr ?_ (by assumption)))
  have x0 : w0.cell? ⟨w.heap.size, 0, none⟩ = some (.int .i64 r.t) := by rw [e0]; go_simp
  have x1 : w0.cell? ⟨w.heap.size, 1, none⟩ = some (.int .i64 r.s) := by rw [e0]; go_simp
  have x2 : w0.cell? ⟨w.heap.size, 2, none⟩ = some (.int .i64 r.n) := by rw [e0]; go_simp
  have r0 : w0.heap[w.heap.size + 1]? = some (.cells [Value.int .i64 0, .int .i64 0, .int .i64 0, .int .i64 0, .slice none 0 0].toArray 71 (0, 0)) := by rw [e0]; exact heap_new' _ _ _ (by simp)
  have HX := Lib.hid (And.intro x0 (And.intro x1 (And.intro x2 r0)))
  have HB0 := Lib.hid hb0
  clear e0 hb0 x0 x1 x2 r0
  go_loopw [6] (fun i wr => ∃ k : Nat, k ≤ l.length ∧ i = .int .i64 k ∧ Hid (evOf (l.drop k) r = o) ∧ Below w0.heap.size w0 wr) (fun i _ => l.length - (intOf i).toNat)
  case atStart => exact ⟨0, Nat.zero_le _, rfl, Lib.hid (by rw [List.drop_zero]; exact HO.out), Below.refl _ _⟩
  case round =>
    obtain ⟨k, hk, rfl, hi, hb⟩ := hrel
    obtain ⟨x0, x1, x2, r0⟩ := HX.out
    have hlt0 := blk_lt r0
    replace x0 := cell_stays hb x0
    replace x1 := cell_stays hb x1
    replace x2 := cell_stays hb x2
    have rr := (hb.block _ hlt0).trans r0
    clear r0
    by_cases hlt : k < l.length
    · have hk' : (k : Int) < (l.length : Int) := by omega
      obtain ⟨b, o', rfl, vv, hvv, c0, c1, c2, c3, c4⟩ := HL.out k l[k] (List.getElem?_eq_getElem hlt)
      have HC4 := Lib.hid c4
      replace c0 := cell_stays (bel_tr HB0.out hb) c0
      replace c1 := cell_stays (bel_tr HB0.out hb) c1
      replace c2 := cell_stays (bel_tr HB0.out hb) c2
      replace c3 := cell_stays (bel_tr HB0.out hb) c3
      replace c4 := cell_stays (bel_tr HB0.out hb) c4
      obtain ⟨A1, cx, rfl, -⟩ := hvv
      have hget := Lib.hid (List.getElem?_eq_getElem (l := l) (i := k) hlt)
      obtain ⟨x, hx⟩ : ∃ x, x = l[k] := ⟨_, rfl⟩
      rw [← hx] at hget c0 c1 c2 c3 c4 HC4
      have HVV : Hid (∀ w1 : World, Below w1.heap.size w1 w → IsEvts w1 (.slice (some ⟨b, o', none⟩) l.length c) l → IsVls w1 (.slice A1 x.vals.length cx) x.vals) := Lib.hid fun w1 hb1 h1 => by
        obtain ⟨A2, c2, he2, -, -, hat2⟩ := h1
        obtain ⟨b2, o2, hA2, v2, hv2, -, -, -, -, d4⟩ := hat2 k x hget.out
        have h3 : some (⟨b, o', none⟩ : Addr) = A2 := by injection he2
        rw [hA2] at h3
        simp only [Option.some.injEq, Addr.mk.injEq, and_true] at h3
        obtain ⟨rfl, rfl⟩ := h3
        have d5 := cell_stays hb1 d4
        rw [HC4.out] at d5
        injection d5 with d5
        exact d5 ▸ hv2
      clear hx
      obtain ⟨d, hd⟩ : ∃ d, refEq (eRef x) r = d := ⟨_, rfl⟩
      have HD := Lib.hid hd
      have he : ∀ W, (binOp .eql 74 (refV (eRef x)) (refV r)).run Tryz.prog W = .ok (.bool d) W := fun W => by rw [ref_eql, hd]
      unfold refV eRef at he
      clear hd
      go_wp2_with fail
      refine wp_region_F (fun W => W.cell? ⟨b, o' + k * 5, none⟩ = some (.int .i64 x.src) ∧ W.cell? ⟨b, o' + k * 5 + 1, none⟩ = some (.int .i64 x.sq) ∧ W.cell? ⟨b, o' + k * 5 + 2, none⟩ = some (.int .i64 x.ty) ∧ W.cell? ⟨b, o' + k * 5 + 3, none⟩ = some (.int .i64 x.tm) ∧ W.cell? ⟨b, o' + k * 5 + 4, none⟩ = some (.slice A1 x.vals.length cx) ∧ W.cell? ⟨w.heap.size, 0, none⟩ = some (.int .i64 r.t) ∧ W.cell? ⟨w.heap.size, 1, none⟩ = some (.int .i64 r.s) ∧ W.cell? ⟨w.heap.size, 2, none⟩ = some (.int .i64 r.n)) (by repeat (first | exact grows_cell _ _ _ | exact grows_true | refine grows_and ?_ ?_)) (by kernel_rfl) (by kernel_rfl) ?hF ?_; (case hF => (first | exact ⟨‹_›, ‹_›⟩ | (go_simp; done) | (simp [*]; done) | (repeat' (first | (refine And.intro ?_ ?_) | (go_simp; done) | exact cell_stays (bel_al (Below.refl _ _) _) (by assumption) | assumption)))); intro hne hxx; have hG : Hid (Grows (fun W => W.cell? ⟨b, o' + k * 5, none⟩ = some (.int .i64 x.src) ∧ W.cell? ⟨b, o' + k * 5 + 1, none⟩ = some (.int .i64 x.sq) ∧ W.cell? ⟨b, o' + k * 5 + 2, none⟩ = some (.int .i64 x.ty) ∧ W.cell? ⟨b, o' + k * 5 + 3, none⟩ = some (.int .i64 x.tm) ∧ W.cell? ⟨b, o' + k * 5 + 4, none⟩ = some (.slice A1 x.vals.length cx) ∧ W.cell? ⟨w.heap.size, 0, none⟩ = some (.int .i64 r.t) ∧ W.cell? ⟨w.heap.size, 1, none⟩ = some (.int .i64 r.s) ∧ W.cell? ⟨w.heap.size, 2, none⟩ = some (.int .i64 r.n))) := (by repeat (first | exact grows_cell _ _ _ | exact grows_true | refine grows_and ?_ ?_)); (repeat (go_big_quiet_step ((go_at_call 37; exact cls_call hG (rRef_bel _ _ _ _ _ _ _ _))))); clear hG hxx hne; refine wpQuiet_nil ?_; rintro wq ⟨⟨w', hb', hF'⟩, rfl⟩
      obtain ⟨c0, c1, c2, c3, c4, x0, x1, x2⟩ := hF'
      have hltr := blk_lt rr
      replace rr := (hb'.block _ hltr).trans rr
      have HRR := Lib.hid rr
      have z0 : wq.cell? ⟨w.heap.size + 1, 0, none⟩ = some (.int .i64 0) := by rw [blk_cell rr]; rfl
      have z1 : wq.cell? ⟨w.heap.size + 1, 1, none⟩ = some (.int .i64 0) := by rw [blk_cell rr]; rfl
      have z2 : wq.cell? ⟨w.heap.size + 1, 2, none⟩ = some (.int .i64 0) := by rw [blk_cell rr]; rfl
      have z3 : wq.cell? ⟨w.heap.size + 1, 3, none⟩ = some (.int .i64 0) := by rw [blk_cell rr]; rfl
      have z4 : wq.cell? ⟨w.heap.size + 1, 4, none⟩ = some (.slice none 0 0) := by rw [blk_cell rr]; rfl
      have rf := blk_frozen rr 0
      have rf1 := blk_frozen rr 1
      have rf2 := blk_frozen rr 2
      have rf3 := blk_frozen rr 3
      have rf4 := blk_frozen rr 4
      cases d with
      | true =>
        have hq := five_set HRR.out (.int .i64 x.src) (.int .i64 x.sq) (.int .i64 x.ty) (.int .i64 x.tm) (.slice A1 x.vals.length cx)
        have hqb := five_below (g := w.heap.size + 1) (bel_tr HB0.out (bel_tr hb hb')) (by omega) (.int .i64 x.src) (.int .i64 x.sq) (.int .i64 x.ty) (.int .i64 x.tm) (.slice A1 x.vals.length cx)
        have HQ := Lib.hid hq
        have HQB := Lib.hid hqb
        clear hq hqb
        go_wp2_with fail
        have q0 := blk_cell HQ.out 0
        have q1 := blk_cell HQ.out 1
        have q2 := blk_cell HQ.out 2
        have q3 := blk_cell HQ.out 3
        have q4 := blk_cell HQ.out 4
        have ho : o = some x := by rw [← hi.out]; exact evOf_hit hget.out HD.out
        exact bodyPost_ret (v := .tuple #[evtV x (.slice A1 x.vals.length cx), .bool true]) (by unfold evtV; simp [results, Tryz.results66, go_sem, q0, q1, q2, q3, q4]) rfl ⟨x, A1, cx, by rw [ho]; rfl, HVV.out, fun y hy => by rw [ho] at hy; injection hy, HQB.out⟩
      | false =>
        clear z0 z1 z2 z3 z4 rf rf1 rf2 rf3 rf4 rr
        go_wp2_with fail
        go_roundw
        case rel => exact ⟨k + 1, by omega, by go_num, Lib.hid (by rw [← evOf_miss hget.out HD.out]; exact hi.out), bel_tr hb hb'⟩
        case measure => simp [intOf]; omega
    · have hk' : ¬ (k : Int) < (l.length : Int) := by omega
      have z0 : wr.cell? ⟨w.heap.size + 1, 0, none⟩ = some (.int .i64 0) := by rw [blk_cell rr]; rfl
      have z1 : wr.cell? ⟨w.heap.size + 1, 1, none⟩ = some (.int .i64 0) := by rw [blk_cell rr]; rfl
      have z2 : wr.cell? ⟨w.heap.size + 1, 2, none⟩ = some (.int .i64 0) := by rw [blk_cell rr]; rfl
      have z3 : wr.cell? ⟨w.heap.size + 1, 3, none⟩ = some (.int .i64 0) := by rw [blk_cell rr]; rfl
      have z4 : wr.cell? ⟨w.heap.size + 1, 4, none⟩ = some (.slice none 0 0) := by rw [blk_cell rr]; rfl
      have rf := blk_frozen rr 0
      have rf1 := blk_frozen rr 1
      have rf2 := blk_frozen rr 2
      have rf3 := blk_frozen rr 3
      have rf4 := blk_frozen rr 4
      have HQ := Lib.hid (five_set rr (.int .i64 0) (.int .i64 0) (.int .i64 0) (.int .i64 0) (.slice none 0 0))
      have HQB := Lib.hid (five_below (g := w.heap.size + 1) (bel_tr HB0.out hb) (by omega) (.int .i64 0) (.int .i64 0) (.int .i64 0) (.int .i64 0) (.slice none 0 0))
      go_wp2_with fail
      have q0 := blk_cell HQ.out 0
      have q1 := blk_cell HQ.out 1
      have q2 := blk_cell HQ.out 2
      have q3 := blk_cell HQ.out 3
      have q4 := blk_cell HQ.out 4
      have ho : o = none := by rw [← hi.out, List.drop_of_length_le (by omega)]; rfl
      exact bodyPost_ret (v := .tuple #[evtV zeroE (.slice none 0 0), .bool false]) (by unfold evtV zeroE; simp [results, Tryz.results66, go_sem, q0, q1, q2, q3, q4]) rfl ⟨zeroE, none, 0, by rw [ho]; rfl, fun _ _ _ => Sl.nil _ _ _ _ _ (Nat.zero_le _), fun y hy => by rw [ho] at hy; exact absurd hy (by simp), HQB.out⟩

/-- an environment whose memory is new, but for the values' memory, which is older than w0 -/
def VarsRet (w0 w : World) (r : List (List Evt)) (e : Ending) (W : World) : Prop := ∃ A c, e = .returned (.agg #[.slice A r.length c]) ∧ IsVars W (.slice A r.length c) r ∧ (∀ q u, w0.heap.size ≤ q → q < w.heap.size → IsVars (W.setCell ⟨q, 0, none⟩ u) (.slice A r.length c) r) ∧ Below w.heap.size w W

set_option maxRecDepth 100000 in
set_option maxHeartbeats 4000000 in
theorem rbound_any (l : List Evt) (N : Nat) (bs : List Bnd) (v vb : Value) (w00 w : World) (hl0 : IsEvts w00 v l) (hb00 : Below w00.heap.size w00 w) (hm : IsBnds w vb bs) (hN : N ≤ 16) (hlen : bs.length ≤ 4096) (hok : ∀ b ∈ bs, 0 ≤ b.v ∧ b.v < (N : Int)) (hev : ∀ b ∈ bs, (evOf l b).isSome = true) :
    Calls Tryz.prog 67 #[v, .int .i64 (N : Int), vb] w (VarsRet w00 w (envV l N bs)) := by
  have hl := hl0.stays evtAt_stays hb00
  have HL := Lib.hid hl
  have HL0 := Lib.hid hl0
  have HB00 := Lib.hid hb00
  have hs00 := hb00.size
  have HM := Lib.hid hm
  have HOK := Lib.hid hok
  have HEVS := Lib.hid hev
  obtain ⟨A, c, rfl, -⟩ := hl
  obtain ⟨C, d, rfl, -⟩ := hm
  clear hok hev hl0 hb00
  obtain ⟨R, hR⟩ : ∃ R, envV l N bs = R := ⟨_, rfl⟩
  have HRR := Lib.hid hR
  rw [hR]
  clear hR
  obtain ⟨i1, hi1, hz1, hy1, -⟩ := info_parts info_evts
  have hb1 : i1.bytes = 24 := by have := info_evts; rw [hi1] at this; simp at this; exact this.2.2
  go_enter Tryz.func67, Tryz.ntmps67
  go_wp2_with (at_make; refine wpList_make_full _ rfl (.tmp 12) (.tmp 12) 44 rfl (w.heap.size + 1) 42 i1 (.slice none 0 0) 1 Tryz.underlying44 hi1 hz1 hy1 .i64 .i64 (N : Int) (N : Int) N rfl rfl rfl rfl (by rw [hb1]; omega) (by unfold maxLen; omega) (by simp) ?_; intro w5 hown5 hg5; have hb5 : Below (w.heap.size + 1) (w.alloc (.cells #[.slice none 0 0] 46)) w5 := grown_below hg5 (by simp) (fun _ h => by cases h); have hlt5 : w.heap.size + 1 < w5.heap.size := (by have := blk_lt (made_row hown5); simpa using this); have hne5 : w.heap.size ≠ w5.heap.size := (by omega); have hne6 : w5.heap.size ≠ w.heap.size := (by omega))
  obtain ⟨Rb, hRb⟩ : ∃ Rb, w.heap.size = Rb := ⟨_, rfl⟩
  obtain ⟨E, hE⟩ : ∃ E, w5.heap.size = E := ⟨_, rfl⟩
  have hGr := made_row hown5
  simp only [World.size_alloc] at hGr
  obtain ⟨G, hG⟩ : ∃ G, w.heap.size + 1 = G := ⟨_, rfl⟩
  refine wp_gen fun w0 e0 => ?_
  have hb0 : Below w5.heap.size w5 w0 := by rw [e0]; exact (by repeat (first | exact Below.refl _ _ | assumption | refine Below.drew ?_ | refine bel_al ?_ _ | refine bel_set ?_ (by omega) _ | refine bel_tr ?_ (by assumption)))
  have hE0 : w0.heap[E]? = some (.cells [Value.slice (some ⟨G, 0, none⟩) N N].toArray 46 (0, 0)) := by rw [e0, ← hE, ← hG]; exact heap_new' _ _ _ rfl
  have hs0 : E + 1 ≤ w0.heap.size := by rw [e0, ← hE]; simp
  have hGE : G < E := by rw [← hG, ← hE]; exact hlt5
  rw [hG] at hGr
  have hV0 : VarsW w00.heap.size (E + 1) G w0 (List.replicate N (.slice none 0 0)) (List.replicate N []) := varsW_made ((hb0.block G (by omega)).trans hGr) ⟨by omega, by omega⟩
  have hbw5 : Below w.heap.size w w5 := (bel_one w _).trans (hb5.mono (by omega))
  have hR0 : w0.heap[Rb]? = some (.cells [Value.slice none 0 0].toArray 46 (0, 0)) := (hb0.block Rb (by omega)).trans ((hb5.block Rb (by omega)).trans (by rw [← hRb]; exact heap_new' _ _ _ rfl))
  have hbw0 : Below w.heap.size w w0 := hbw5.trans (hb0.mono (by omega))
  have hRG : w.heap.size ≤ Rb ∧ Rb < G := by omega
  have HV0 := Lib.hid hV0
  have HER := Lib.hid (And.intro hE0 hR0)
  have HBW0 := Lib.hid hbw0
  rw [hG, hRb, hE]
  clear e0 hb0 hE0 hV0 hR0 hbw0 hGr hown5 hg5 hb5 hlt5 hne5 hne6 hbw5 hRb hG hE hi1 hz1 hy1 hb1
  go_loopw [8] (fun i wr => ∃ (k : Nat) (vs : List Value) (es : List (List EV)), k ≤ bs.length ∧ i = .int .i64 k ∧ Hid (VarsW w00.heap.size (E + 1) G wr vs es ∧ es.map (fun l => l.map (·.1)) = envV l N (bs.take k) ∧ wr.heap[E]? = some (.cells [Value.slice (some ⟨G, 0, none⟩) N N].toArray 46 (0, 0)) ∧ wr.heap[Rb]? = some (.cells [Value.slice none 0 0].toArray 46 (0, 0)) ∧ Below w.heap.size w wr ∧ E + 1 ≤ wr.heap.size)) (fun i _ => bs.length - (intOf i).toNat)
  case atStart => exact ⟨0, _, _, Nat.zero_le _, rfl, Lib.hid ⟨HV0.out, by simp [envV], HER.out.1, HER.out.2, HBW0.out, hs0⟩⟩
  case round =>
    obtain ⟨k, vs, es, hk, rfl, hI⟩ := hrel
    have hbr := hI.out.2.2.2.2.1
    have hEr := hI.out.2.2.2.2.2
    have rc : wr.cell? ⟨Rb, 0, none⟩ = some (.slice none 0 0) := by rw [blk_cell hI.out.2.2.2.1]; rfl
    have rf := blk_frozen hI.out.2.2.2.1 0
    have ec : wr.cell? ⟨E, 0, none⟩ = some (.slice (some ⟨G, 0, none⟩) N N) := by rw [blk_cell hI.out.2.2.1]; rfl
    by_cases hlt : k < bs.length
    · have hk' : (k : Int) < (bs.length : Int) := by omega
      obtain ⟨_, _, hCe, hd1, hd2, hat⟩ := HM.out
      injection hCe with hCe _ hde
      subst hde
      have hnb := len_i64 hd1 hd2
      clear hd1 hd2
      obtain ⟨b, o, hC, c0, c1, c2, c3⟩ := hat k bs[k] (List.getElem?_eq_getElem hlt)
      rw [← hCe] at hC
      clear hCe hat
      subst hC
      replace c0 := cell_stays hbr c0
      replace c1 := cell_stays hbr c1
      replace c2 := cell_stays hbr c2
      replace c3 := cell_stays hbr c3
      have hget := Lib.hid (List.getElem?_eq_getElem hlt)
      have hxok := HOK.out bs[k] (List.getElem_mem hlt)
      have hxev := HEVS.out bs[k] (List.getElem_mem hlt)
      obtain ⟨x, hx⟩ : ∃ x, x = bs[k] := ⟨_, rfl⟩
      rw [← hx] at hget c0 c1 c2 c3 hxok hxev
      clear hx
      obtain ⟨j, hj⟩ : ∃ j : Nat, x.v = (j : Int) := ⟨x.v.toNat, by omega⟩
      have HJ := Lib.hid hj
      rw [hj] at c0 hxok
      have hjN : j < N := by omega
      have hjN' : (j : Int) < (N : Int) := by omega
      obtain ⟨yo, hyo⟩ := Option.isSome_iff_exists.1 hxev
      have HEV := Lib.hid hyo
      clear hj hxok hxev hyo
      have hbl : b < wr.heap.size := World.block_lt_of_cell? wr ⟨b, _, none⟩ c0
      have hnb1 : b ≠ wr.heap.size := by omega
      have hnb2 : wr.heap.size ≠ b := by omega
      go_wp2_with fail
      refine calls_gen fun W6 e6 => ?_
      obtain ⟨T, hT⟩ : ∃ T, wr.heap.size = T := ⟨_, rfl⟩
      have t0 : W6.cell? ⟨T, 0, none⟩ = some (.int .i64 (j : Int)) := by rw [e6, ← hT]; go_simp
      have hb6 : Below wr.heap.size wr W6 := by rw [e6]; exact (by repeat (first | exact Below.refl _ _ | assumption | refine Below.drew ?_ | refine bel_al ?_ _ | refine bel_set ?_ (by omega) _ | refine bel_tr ?_ (by assumption)))
      have hT6 : T < W6.heap.size := by rw [e6, ← hT]; simp
      have hET : E < T := by omega
      rw [hT]
      clear e6 c0 c1 c2 c3 hbl hnb1 hnb2
      refine (revent_any l x _ W6 (HL.out.stays evtAt_stays (bel_tr hbr hb6))).mono ?_
      rw [HEV.out]
      rintro e w7 ⟨y, A9, c9, rfl, hyv, hyy, hb7⟩
      replace hyy := hyy yo rfl
      have HEVY := Lib.hid (HEV.out.trans (congrArg some hyy.symm))
      have HYV := Lib.hid (hyv w00 (bel_tr HB00.out (bel_tr hbr hb6)) HL0.out)
      clear hyy hyv
      replace t0 := cell_stays hb7 t0
      have hb67 := bel_tr hb6 hb7
      have hT7 : T < w7.heap.size := Nat.lt_of_lt_of_le hT6 hb7.size
      replace rc := cell_stays hb67 rc
      replace rf : w7.frozen? ⟨Rb, 0, none⟩ = false := (World.frozen?_of_block (a := ⟨Rb, 0, none⟩) (hb67.block Rb (by omega))).trans rf
      have hVW := hI.out.1.grow hb67
      have HI7 : Hid (∀ (q : Nat) (u : Value) (m : List EV), vs[q]? = some u → es[q]? = some m → ∀ h, u.ownBlock = some h → h < T) := Lib.hid fun q u m h1 h2 h hh => by have := (ownsRow_lt (hI.out.1.row q u m h1 h2) hh).2; omega
      replace ec := cell_stays hb67 ec
      have HB7 := Lib.hid (bel_tr hbr hb67)
      have HER7 := Lib.hid (And.intro ((hb67.block E (by omega)).trans hI.out.2.2.1) ((hb67.block Rb (by omega)).trans hI.out.2.2.2.1))
      have HVW := Lib.hid hVW
      have hE7 : E + 1 ≤ w7.heap.size := by omega
      clear hb6 hb7 hVW hT
      unfold evtV
      go_wp2_with fail
      refine wp_gen fun W10 e10 => ?_
      obtain ⟨X, hX⟩ : ∃ X, w7.heap.size = X := ⟨_, rfl⟩
      have hX10 : W10.heap[X]? = some (.cells [Value.int .i64 y.src, .int .i64 y.sq, .int .i64 y.ty, .int .i64 y.tm, .slice A9 y.vals.length c9].toArray 71 (0, 0)) := by rw [e10, ← hX]; exact heap_new' _ _ _ rfl
      have hb710 : Below w7.heap.size w7 W10 := by rw [e10]; exact (by repeat (first | exact Below.refl _ _ | assumption | refine Below.drew ?_ | refine bel_al ?_ _ | refine bel_set ?_ (by omega) _ | refine bel_tr ?_ (by assumption)))
      rw [hX]
      have hsz10 : X < W10.heap.size := blk_lt hX10
      clear e10
      have z0 : W10.cell? ⟨X, 0, none⟩ = some (.int .i64 y.src) := by rw [blk_cell hX10]; rfl
      have z1 : W10.cell? ⟨X, 1, none⟩ = some (.int .i64 y.sq) := by rw [blk_cell hX10]; rfl
      have z2 : W10.cell? ⟨X, 2, none⟩ = some (.int .i64 y.ty) := by rw [blk_cell hX10]; rfl
      have z3 : W10.cell? ⟨X, 3, none⟩ = some (.int .i64 y.tm) := by rw [blk_cell hX10]; rfl
      have z4 : W10.cell? ⟨X, 4, none⟩ = some (.slice A9 y.vals.length c9) := by rw [blk_cell hX10]; rfl
      replace ec := cell_stays hb710 ec
      replace t0 := cell_stays hb710 t0
      have hVX := HVW.out.grow hb710
      have hes : es.length = N := by have := congrArg List.length hI.out.2.1; rw [List.length_map, envV_len] at this; exact this
      obtain ⟨m, hm⟩ : ∃ m, es[j]? = some m := ⟨_, List.getElem?_eq_getElem (by omega)⟩
      obtain ⟨u, hu⟩ : ∃ u, vs[j]? = some u := ⟨_, List.getElem?_eq_getElem (by rw [hVX.len]; omega)⟩
      have hrow := hVX.row j u m hu hm
      have hrow7 := HVW.out.row j u m hu hm
      obtain ⟨Av, cv, hav⟩ := slice_own hrow
      subst hav
      have gc : W10.cell? ⟨G, j, none⟩ = some (.slice Av m.length cv) := by rw [blk_cell hVX.blk]; exact hu
      have gf := blk_frozen hVX.blk j
      have hmk := rows_len hI.out.2.1 hm
      have HROW := Lib.hid hrow
      have HVX := Lib.hid hVX
      have HUM := Lib.hid (And.intro hu hm)
      have HTX : Hid (∀ h, (Value.slice Av m.length cv).ownBlock = some h → T ≠ h ∧ X ≠ h) := Lib.hid fun h hh => by
        have h1 := ownsRow_lt hrow7 hh
        have h2 := hVX.row j _ m hu hm
        refine ⟨fun e => ?_, by omega⟩
        have h3 := HI7.out j _ m hu hm h hh
        omega
      obtain ⟨j0, hj0, hy0, hy1, hy2⟩ := info_parts info_evt
      have hG10 := blk_lt hVX.blk
      have hTs : T < W10.heap.size := by have := hb710.size; omega
      have hEs : E + 1 ≤ W10.heap.size := by have := hb710.size; omega
      clear hrow hrow7 hVX hu hm hX10
      go_wp2_with fail
      refine wp_region_noPanic ?_
      refine wp_region_P (fun W => W.cell? ⟨E, 0, none⟩ = some (.slice (some ⟨G, 0, none⟩) N N) ∧ W.cell? ⟨T, 0, none⟩ = some (.int .i64 (j : Int)) ∧ W.cell? ⟨G, j, none⟩ = some (.slice Av m.length cv) ∧ W.cell? ⟨X, 0, none⟩ = some (.int .i64 y.src) ∧ W.cell? ⟨X, 1, none⟩ = some (.int .i64 y.sq) ∧ W.cell? ⟨X, 2, none⟩ = some (.int .i64 y.ty) ∧ W.cell? ⟨X, 3, none⟩ = some (.int .i64 y.tm) ∧ W.cell? ⟨X, 4, none⟩ = some (.slice A9 y.vals.length c9)) 13 (by kernel_rfl) (⟨ec, t0, gc, z0, z1, z2, z3, z4⟩) (fun hHeld => ?_)
      focus (refine wpAnyP_take (i := 0) (v := ?_) rfl (by kernel_rfl) (by kernel_rfl) (by kernel_rfl) (by kernel_rfl) (fun _ _ _ h => h) (Or.inl ⟨by rfl, ?_⟩) (by assumption) ?_; rotate_left 1; (focus (intro wS hSw; (try dsimp only at hSw); go_simp <;> with_reducible rfl)); try simp only [Act.put, List.setIfInBounds_toArray])
      focus (refine wpAnyP_take (i := 1) (v := ?_) rfl (by kernel_rfl) (by kernel_rfl) (by kernel_rfl) (by kernel_rfl) (fun _ _ _ h => h) (Or.inl ⟨by rfl, ?_⟩) (by assumption) ?_; rotate_left 1; (focus (intro wS hSw; (try dsimp only at hSw); go_simp <;> with_reducible rfl)); try simp only [Act.put])
      focus (refine wpAnyP_take (i := 2) (v := ?_) rfl (by kernel_rfl) (by kernel_rfl) (by kernel_rfl) (by kernel_rfl) (fun _ _ _ h => h) (Or.inl ⟨by rfl, ?_⟩) (by assumption) ?_; rotate_left 1; (focus (intro wS hSw; (try dsimp only at hSw); go_simp <;> with_reducible rfl)); try simp only [Act.put])
      focus (refine wpAnyP_take (i := 3) (v := ?_) rfl (by kernel_rfl) (by kernel_rfl) (by kernel_rfl) (by kernel_rfl) (fun _ _ _ h => h) (Or.inl ⟨by rfl, ?_⟩) (by assumption) ?_; rotate_left 1; (focus (intro wS hSw; (try dsimp only at hSw); go_simp <;> with_reducible rfl)); try simp only [Act.put])
      focus (refine wpAnyP_take (i := 4) (v := ?_) rfl (by kernel_rfl) (by kernel_rfl) (by kernel_rfl) (by kernel_rfl) (fun _ _ _ h => h) (Or.inl ⟨by rfl, ?_⟩) (by assumption) ?_; rotate_left 1; (focus (intro wS hSw; (try dsimp only at hSw); go_simp <;> with_reducible rfl)); try simp only [Act.put])
      focus (refine wpAnyP_take (i := 5) (v := ?_) rfl (by kernel_rfl) (by kernel_rfl) (by kernel_rfl) (by kernel_rfl) (fun _ _ _ h => h) (Or.inl ⟨by rfl, ?_⟩) (by assumption) ?_; rotate_left 1; (focus (intro wS hSw; (try dsimp only at hSw); go_simp <;> with_reducible rfl)); try simp only [Act.put])
      focus (refine wpAnyP_take (i := 6) (v := ?_) rfl (by kernel_rfl) (by kernel_rfl) (by kernel_rfl) (by kernel_rfl) (fun _ _ _ h => h) (Or.inl ⟨by rfl, ?_⟩) (by assumption) ?_; rotate_left 1; (focus (intro wS hSw; (try dsimp only at hSw); go_simp <;> with_reducible rfl)); try simp only [Act.put])
      focus (refine wpAnyP_take (i := 7) (v := ?_) rfl (by kernel_rfl) (by kernel_rfl) (by kernel_rfl) (by kernel_rfl) (fun _ _ _ h => h) (Or.inl ⟨by rfl, ?_⟩) (by assumption) ?_; rotate_left 1; (focus (intro wS hSw; (try dsimp only at hSw); go_simp <;> with_reducible rfl)); try simp only [Act.put])
      focus (refine wpAnyP_take (i := 8) (v := ?_) rfl (by kernel_rfl) (by kernel_rfl) (by kernel_rfl) (by kernel_rfl) (fun _ _ _ h => h) (Or.inl ⟨by rfl, ?_⟩) (by assumption) ?_; rotate_left 1; (focus (intro wS hSw; (try dsimp only at hSw); go_simp <;> with_reducible rfl)); try simp only [Act.put])
      focus (refine wpAnyP_take (i := 9) (v := ?_) rfl (by kernel_rfl) (by kernel_rfl) (by kernel_rfl) (by kernel_rfl) (fun _ _ _ h => h) (Or.inl ⟨by rfl, ?_⟩) (by assumption) ?_; rotate_left 1; (focus (intro wS hSw; (try dsimp only at hSw); go_simp <;> with_reducible rfl)); try simp only [Act.put])
      focus (refine wpAnyP_take (i := 10) (v := ?_) rfl (by kernel_rfl) (by kernel_rfl) (by kernel_rfl) (by kernel_rfl) (fun _ _ _ h => h) (Or.inl ⟨by rfl, ?_⟩) (by assumption) ?_; rotate_left 1; (focus (intro wS hSw; (try dsimp only at hSw); go_simp <;> with_reducible rfl)); try simp only [Act.put])
      refine wpAnyP_ready (rs := [11]) (by kernel_rfl) (by simp) (by kernel_rfl) ?_
      refine AllReadyP.cons rfl (fun K hK => ?_) ?_
      go_simp
      refine hK.out _ _ (⟨cell_stays (bel_one _ _) ec, cell_stays (bel_one _ _) t0, cell_stays (bel_one _ _) gc, cell_stays (bel_one _ _) z0, cell_stays (bel_one _ _) z1, cell_stays (bel_one _ _) z2, cell_stays (bel_one _ _) z3, cell_stays (bel_one _ _) z4⟩) (fun hHeld => ?_)
      clear hK K
      try simp only [Act.put, List.setIfInBounds_toArray, List.set_cons_zero, List.set_cons_succ]
      refine wpAnyP_ready (rs := [12]) (by kernel_rfl) (by simp) (by kernel_rfl) ?_
      refine AllReadyP.cons rfl (fun K hK => ?_) ?_
      focus (refine step_app _ (by rfl) (.tmp 53) (.tmp 55) 42 (by rfl) (E + 1) 71 j0 _ 5 56 Tryz.underlying42 hj0 hy0 hy1 hy2 rfl (by decide) (.slice Av m.length cv) m.length (evCells m) (by rfl) (ownsRow_below HROW.out (by repeat (first | exact Below.refl _ _ | assumption | refine Below.drew ?_ | refine bel_al ?_ _ | refine bel_set ?_ (by omega) _ | refine bel_tr ?_ (by assumption)))) (some ⟨W10.heap.size, 0, none⟩) 1 1 [.int .i64 y.src, .int .i64 y.sq, .int .i64 y.ty, .int .i64 y.tm, .slice A9 y.vals.length c9] (by rfl) (Src.stays (src_new W10 [.int .i64 y.src, .int .i64 y.sq, .int .i64 y.ty, .int .i64 y.tm, .slice A9 y.vals.length c9] 71 1 5 rfl (by simp [Value.oneCell'])) (by repeat (first | exact Below.refl _ _ | assumption | refine Below.drew ?_ | refine bel_al ?_ _ | refine bel_set ?_ (by omega) _ | refine bel_tr ?_ (by assumption)))) (by unfold maxLen; omega) (by omega) (by simp; omega) ?_; intro v12 w12 hown12 hg12 hloc12; obtain ⟨A12, c12, hv12⟩ := slice_own hown12; subst hv12; have hk12 : ∀ q, q < W10.heap.size → (∀ h, (Value.slice Av m.length cv).ownBlock = some h → q ≠ h) → w12.heap[q]? = W10.heap[q]? := (fun q hq hne => (hg12.block q (by simp; omega) (fun e => hne q e.symm rfl)).trans (Below.heap_alloc W10 _ q hq)); have hnE : ∀ h, (Value.slice Av m.length cv).ownBlock = some h → E ≠ h := (fun h hh => by have := (ownsRow_lt HROW.out hh).1; omega); have hnG : ∀ h, (Value.slice Av m.length cv).ownBlock = some h → G ≠ h := (fun h hh => by have := (ownsRow_lt HROW.out hh).1; omega); have hnT : ∀ h, (Value.slice Av m.length cv).ownBlock = some h → T ≠ h := (fun h hh => (HTX.out h hh).1); have hnX : ∀ h, (Value.slice Av m.length cv).ownBlock = some h → X ≠ h := (fun h hh => (HTX.out h hh).2); have gf12 : w12.frozen? ⟨G, j, none⟩ = false := (World.frozen?_of_block (a := ⟨G, j, none⟩) (hk12 G (by omega) hnG)).trans gf; have gc12 : w12.cell? ⟨G, j, none⟩ = some (.slice Av m.length cv) := (World.cell?_of_block (a := ⟨G, j, none⟩) (hk12 G (by omega) hnG)).trans gc)
      refine hK.out _ _ (⟨(World.cell?_of_block (a := ⟨E, 0, none⟩) (hk12 E (by omega) hnE)).trans ec, (World.cell?_of_block (a := ⟨T, 0, none⟩) (hk12 T (by omega) hnT)).trans t0, (World.cell?_of_block (a := ⟨G, j, none⟩) (hk12 G (by omega) hnG)).trans gc, (World.cell?_of_block (a := ⟨X, 0, none⟩) (hk12 X (by omega) hnX)).trans z0, (World.cell?_of_block (a := ⟨X, 1, none⟩) (hk12 X (by omega) hnX)).trans z1, (World.cell?_of_block (a := ⟨X, 2, none⟩) (hk12 X (by omega) hnX)).trans z2, (World.cell?_of_block (a := ⟨X, 3, none⟩) (hk12 X (by omega) hnX)).trans z3, (World.cell?_of_block (a := ⟨X, 4, none⟩) (hk12 X (by omega) hnX)).trans z4⟩) (fun hHeld => ?_)
      clear hK K
      try simp only [Act.put, List.setIfInBounds_toArray]
      focus (refine wpAnyP_end (v := ?_) rfl (by kernel_rfl) (by kernel_rfl) (Or.inl ⟨by rfl, ?_⟩) ?_ (by kernel_rfl); rotate_left 1; (focus (intro wS _; go_simp <;> with_reducible rfl)); try simp only [Act.put])
      refine wpAny_last (i := 14) rfl (by kernel_rfl) (by kernel_rfl) (fun K hK => ?_)
      go_simp
      refine hK.out _ _ (NoPanic.normal ?_)
      clear hK K
      rotate_left 1
      exact AllReadyP.nil
      exact AllReadyP.nil
      have hBN : Below w.heap.size w w12 := Below.trans (bel_tr (bel_tr HB7.out hb710) (by exact (by repeat (first | exact Below.refl _ _ | assumption | refine Below.drew ?_ | refine bel_al ?_ _ | refine bel_set ?_ (by omega) _ | refine bel_tr ?_ (by assumption))))) (grown_below (B := w.heap.size) hg12 (by have := HB7.out.size; have := hb710.size; simp only [World.size_alloc, World.size_drew]; omega) (fun h hh => by have := (ownsRow_lt HROW.out hh).1; omega))
      have hVN := VarsW.app (x := y) (u := .slice A9 y.vals.length c9) (HVX.out.grow (by exact (by repeat (first | exact Below.refl _ _ | assumption | refine Below.drew ?_ | refine bel_al ?_ _ | refine bel_set ?_ (by omega) _ | refine bel_tr ?_ (by assumption))))) HUM.out.1 HUM.out.2 (by simp; omega) hown12 hg12 hloc12 (HYV.out.stays vlAt_stays (bel_tr HB00.out (bel_tr (bel_tr HB7.out hb710) (by exact (by repeat (first | exact Below.refl _ _ | assumption | refine Below.drew ?_ | refine bel_al ?_ _ | refine bel_set ?_ (by omega) _ | refine bel_tr ?_ (by assumption))))))) (fun hne h hh => ⟨.inl (vls_lt HYV.out hne hh), fun v hv e => by
        have h2 := vls_lt HYV.out hne hh
        obtain ⟨q, hq⟩ := List.mem_iff_getElem?.1 hv
        have hq2 : q < es.length := by rw [← HVX.out.len]; exact getD_of hq
        have h1 := (ownsRow_lt (HVX.out.row q v es[q] hq (List.getElem?_eq_getElem hq2)) e).1
        omega⟩)
      have hER12 : Hid (w12.heap[E]? = some (.cells [Value.slice (some ⟨G, 0, none⟩) N N].toArray 46 (0, 0)) ∧ w12.heap[Rb]? = some (.cells [Value.slice none 0 0].toArray 46 (0, 0))) := Lib.hid ⟨(hk12 E (by omega) hnE).trans ((hb710.block E (by omega)).trans HER7.out.1), (hk12 Rb (by omega) (fun h hh => by have := (ownsRow_lt HROW.out hh).1; omega)).trans ((hb710.block Rb (by omega)).trans HER7.out.2)⟩
      have hs12 : E + 1 ≤ w12.heap.size := by have := hg12.size; simp at this; omega
      have HBN := Lib.hid hBN
      have HVN := Lib.hid hVN
      clear hBN hVN hown12 hg12 hloc12 hk12 hnE hnG hnT hnX
      go_wp2_with fail
      go_roundw
      case rel =>
        exact ⟨k + 1, _, _, by omega, by go_num, Lib.hid ⟨HVN.out, rows_step hI.out.2.1 hget.out HJ.out HEVY.out HUM.out.2, (Below.heap_setCell w12 ⟨G, j, none⟩ _ E (by simp only; omega)).trans hER12.out.1, (Below.heap_setCell w12 ⟨G, j, none⟩ _ Rb (by simp only; omega)).trans hER12.out.2, bel_set HBN.out (by omega) _, by simpa using hs12⟩⟩
      case measure => simp [intOf]; omega
    · have hk' : ¬ (k : Int) < (bs.length : Int) := by omega
      have hke : k = bs.length := by omega
      have hI1 := hI.out
      rw [hke, List.take_length] at hI1
      have hes : es.length = N := by have := congrArg List.length hI1.2.1; rw [List.length_map, envV_len] at this; exact this
      have HE : Hid (R = es.map (fun l => l.map (·.1))) := Lib.hid (by rw [← HRR.out, hI1.2.1])
      have hVF := (hI1.1.set (R := Rb) ⟨by omega, by omega⟩ (by omega) 0 (.slice (some ⟨G, 0, none⟩) N N)).is (by rw [hes]; unfold maxLen; omega)
      rw [hes] at hVF
      have rr := World.cell?_setCell_same' wr ⟨Rb, 0, none⟩ (.slice (some ⟨G, 0, none⟩) N N) (by rw [rc]; rfl)
      have HVF := Lib.hid hVF
      have HVG : Hid (∀ q u, w00.heap.size ≤ q → q < w.heap.size → IsVars ((wr.setCell ⟨Rb, 0, none⟩ (.slice (some ⟨G, 0, none⟩) N N)).setCell ⟨q, 0, none⟩ u) (.slice (some ⟨G, 0, none⟩) N N) (es.map fun l => l.map (·.1))) := Lib.hid fun q u h1 h2 => by
        have h3 := ((hI1.1.set (R := Rb) ⟨by omega, by omega⟩ (by omega) 0 (.slice (some ⟨G, 0, none⟩) N N)).set (R := q) ⟨h1, by omega⟩ (by omega) 0 u).is (by rw [hes]; unfold maxLen; omega)
        rwa [hes] at h3
      have HQ := Lib.hid rr
      have HES := Lib.hid hes
      clear hI hI1 hke hes hVF rr
      go_wp2_with fail
      have rr := HQ.out
      rw [HE.out]
      exact bodyPost_ret (v := .agg #[.slice (some ⟨G, 0, none⟩) N N]) (by simp [results, Tryz.results67, go_sem, rr]) rfl ⟨_, N, by rw [List.length_map, HES.out], by rw [List.length_map, HES.out]; exact HVF.out, by rw [List.length_map, HES.out]; exact HVG.out, bel_set hbr (by omega) _⟩

theorem scan_const {g : Bnd → Int} : ∀ (l : List Bnd) (p : Option Bnd), scanE (fun _ b => g b) p l = 0 → ∀ b ∈ l, g b = 0
  | [], _, _, b, hb => by simp at hb
  | x :: l, p, h, b, hb => by
    simp only [scanE] at h
    split at h
    · next e =>
      rcases List.mem_cons.1 hb with rfl | hb
      · exact e
      · exact scan_const l _ h b hb
    · next e => exact absurd h e
theorem envE1_ok {l : List Evt} {n : Int} {b : Bnd} (h : envE1 l n b = 0) : b.v < n ∧ (evOf l b).isSome = true := by
  unfold envE1 at h
  split at h
  · exact absurd h (by decide)
  · next h1 =>
    split at h
    · exact absurd h (by decide)
    · next h2 => exact ⟨by omega, by cases he : evOf l b <;> simp_all⟩

set_option maxRecDepth 100000 in
set_option maxHeartbeats 4000000 in
theorem renv_any (l : List Evt) (n : Int) (bs : List Bnd) (v vm : Value) (w : World) (hl : IsEvts w v l) (hm : IsBnds w vm bs) :
    Calls Tryz.prog 23 #[v, .int .i64 n, matV vm] w (EnvRet w (envR l n bs)) := by
  have HL := Lib.hid hl
  have HM := Lib.hid hm
  obtain ⟨A, c, rfl, -⟩ := hl
  obtain ⟨C, d, rfl, -⟩ := hm
  unfold matV
  obtain ⟨se, hse⟩ : ∃ se, strErr l = se := ⟨_, rfl⟩
  have HSE := Lib.hid hse
  obtain ⟨R, hR⟩ : ∃ R, envR l n bs = R := ⟨_, rfl⟩
  have HRR := Lib.hid hR
  rw [hR]
  clear hse hR
  go_enter Tryz.func23, Tryz.ntmps23
  go_wp2_with fail
  refine calls_gen fun W1 e1 => ?_
  have x0 : W1.cell? ⟨w.heap.size, 0, none⟩ = some (.slice C bs.length d) := by rw [e1]; go_simp
  have r0 : W1.heap[w.heap.size + 1]? = some (.cells [Value.slice none 0 0].toArray 46 (0, 0)) := by rw [e1]; exact heap_new' _ _ _ (by simp)
  have hb1 : Below w.heap.size w W1 := by rw [e1]; exact (by repeat (first | exact Below.refl _ _ | assumption | refine Below.drew ?_ | refine bel_al ?_ _ | refine bel_set ?_ (by omega) _ | refine bel_tr ?_ (by assumption)))
  have hs1 : w.heap.size + 1 < W1.heap.size := by rw [e1]; simp
  clear e1
  refine (rstrchk_any l _ W1 (HL.out.stays evtAt_stays hb1)).mono ?_
  rw [HSE.out]
  rintro e w2 ⟨rfl, hb2⟩
  replace x0 := cell_stays hb2 x0
  replace r0 := (hb2.block (w.heap.size + 1) hs1).trans r0
  have hs2 : w.heap.size + 1 < w2.heap.size := Nat.lt_of_lt_of_le hs1 hb2.size
  have HB2 := Lib.hid (bel_tr hb1 hb2)
  clear hb1 hb2 hs1
  by_cases h0 : se = 0
  case neg =>
    have h0' : (se != 0) = true := by simpa using h0
    have HX : Hid (R = ([], se)) := Lib.hid (by rw [← HRR.out]; exact envR_err (envErr_str HSE.out h0) h0)
    have rc : w2.cell? ⟨w.heap.size + 1, 0, none⟩ = some (.slice none 0 0) := by rw [blk_cell r0]; rfl
    have rf := blk_frozen r0 0
    have rr := World.cell?_setCell_same' w2 ⟨w.heap.size + 1, 0, none⟩ (.slice none 0 0) (by rw [rc]; rfl)
    clear h0
    have HQ := Lib.hid rr
    clear rr
    go_wp2_with fail
    have rr := HQ.out
    rw [HX.out]
    exact bodyPost_ret (v := .tuple #[.agg #[.slice none 0 0], .int .i64 se]) (by simp [results, Tryz.results23, go_sem, rr]) rfl ⟨_, rfl, Sl.nil _ _ _ _ _ (Nat.zero_le _), bel_set HB2.out (by omega) _⟩
  subst h0
  have rc : w2.cell? ⟨w.heap.size + 1, 0, none⟩ = some (.slice none 0 0) := by rw [blk_cell r0]; rfl
  have rf := blk_frozen r0 0
  by_cases hin : inI n 16 = false
  · have HX : Hid (R = ([], 2)) := Lib.hid (by rw [← HRR.out]; exact envR_err (envErr_in HSE.out hin) (by decide))
    have rr := World.cell?_setCell_same' w2 ⟨w.heap.size + 1, 0, none⟩ (.slice none 0 0) (by rw [rc]; rfl)
    have HQ := Lib.hid rr
    clear rr
    have hin2 : n < 0 ∨ (¬ n < 0 ∧ 16 < n) := by
      unfold inI at hin
      simp only [Bool.and_eq_false_iff, decide_eq_false_iff_not] at hin
      omega
    clear hin
    rcases hin2 with hn | ⟨hn, hn2⟩
    all_goals
      go_wp2_with fail
      have rr := HQ.out
      rw [HX.out]
      exact bodyPost_ret (v := .tuple #[.agg #[.slice none 0 0], .int .i64 2]) (by simp [results, Tryz.results23, go_sem, rr]) rfl ⟨_, rfl, Sl.nil _ _ _ _ _ (Nat.zero_le _), bel_set HB2.out (by omega) _⟩
  have HIN := Lib.hid hin
  rw [Bool.not_eq_false] at hin
  obtain ⟨N, hN, hN16⟩ : ∃ N : Nat, n = (N : Int) ∧ N ≤ 16 := by
    unfold inI at hin
    simp only [Bool.and_eq_true, decide_eq_true_eq] at hin
    exact ⟨n.toNat, by omega, by omega⟩
  subst hN
  obtain ⟨me, hme⟩ : ∃ me, matErr bs = me := ⟨_, rfl⟩
  have HME := Lib.hid hme
  have hn1 : ¬ (N : Int) < 0 := by omega
  have hn2 : ¬ 16 < (N : Int) := by omega
  clear hme hin
  go_wp2_with fail
  refine (rmcheck_any bs _ w2 (HM.out.stays bndAt_stays HB2.out)).mono ?_
  rw [HME.out]
  rintro e w3 ⟨rfl, hb3⟩
  replace x0 := cell_stays hb3 x0
  have r3 := (hb3.block (w.heap.size + 1) hs2).trans r0
  have hs3 : w.heap.size + 1 < w3.heap.size := Nat.lt_of_lt_of_le hs2 hb3.size
  have HB3 := Lib.hid (bel_tr HB2.out hb3)
  clear hb3 rc rf r0 hs2
  have rc : w3.cell? ⟨w.heap.size + 1, 0, none⟩ = some (.slice none 0 0) := by rw [blk_cell r3]; rfl
  have rf := blk_frozen r3 0
  by_cases h0 : me = 0
  case neg =>
    have h0' : (me != 0) = true := by simpa using h0
    have HX : Hid (R = ([], me)) := Lib.hid (by rw [← HRR.out]; exact envR_err (envErr_mat HSE.out HIN.out HME.out h0) h0)
    have rr := World.cell?_setCell_same' w3 ⟨w.heap.size + 1, 0, none⟩ (.slice none 0 0) (by rw [rc]; rfl)
    clear h0
    have HQ := Lib.hid rr
    clear rr
    go_wp2_with fail
    have rr := HQ.out
    rw [HX.out]
    exact bodyPost_ret (v := .tuple #[.agg #[.slice none 0 0], .int .i64 me]) (by simp [results, Tryz.results23, go_sem, rr]) rfl ⟨_, rfl, Sl.nil _ _ _ _ _ (Nat.zero_le _), bel_set HB3.out (by omega) _⟩
  subst h0
  obtain ⟨-, hbl, hbok⟩ := mat_ok HME.out
  have HBOK := Lib.hid hbok
  clear hbok
  obtain ⟨Rb, hRb⟩ : ∃ Rb, w.heap.size + 1 = Rb := ⟨_, rfl⟩
  obtain ⟨B0, hB0⟩ : ∃ B0, w.heap.size = B0 := ⟨_, rfl⟩
  have hRw : w.heap.size ≤ Rb := by omega
  have hBw : w.heap.size ≤ B0 := by omega
  have hB3 : B0 < w3.heap.size := by omega
  rw [hRb] at r3 rc rf hs3
  rw [hB0] at x0
  have H3 := Lib.hid (And.intro x0 r3)
  clear x0 r3 rc rf
  have HRb := Lib.hid hRb
  have HB0 := Lib.hid hB0
  clear hRb hB0
  go_wp2_with fail
  rw [HRb.out, HB0.out]
  clear HRb HB0
  go_loopw [10] (fun i wr => ∃ k : Nat, k ≤ bs.length ∧ i = .int .i64 k ∧ Hid (scanE (fun _ b => envE1 l N b) (prevL bs k) (bs.drop k) = scanE (fun _ b => envE1 l N b) none bs) ∧ Below w3.heap.size w3 wr) (fun i _ => bs.length - (intOf i).toNat)
  case atStart => exact ⟨0, Nat.zero_le _, rfl, Lib.hid rfl, Below.refl _ _⟩
  case round =>
    obtain ⟨k, hk, rfl, hI, hbr⟩ := hrel
    have hbw := bel_tr HB3.out hbr
    obtain ⟨x0, r3⟩ := H3.out
    replace x0 := cell_stays hbr x0
    replace r3 := (hbr.block Rb hs3).trans r3
    have rc : wr.cell? ⟨Rb, 0, none⟩ = some (.slice none 0 0) := by rw [blk_cell r3]; rfl
    have rf := blk_frozen r3 0
    by_cases hlt : k < bs.length
    · have hk' : (k : Int) < (bs.length : Int) := by omega
      obtain ⟨_, _, hCe, hd1, hd2, hat⟩ := HM.out
      injection hCe with hCe _ hde
      subst hde
      have hnb := len_i64 hd1 hd2
      clear hd1 hd2
      obtain ⟨b, o, hC, c0, c1, c2, c3⟩ := hat k bs[k] (List.getElem?_eq_getElem hlt)
      rw [← hCe] at hC
      clear hCe hat
      subst hC
      replace c0 := cell_stays hbw c0
      replace c1 := cell_stays hbw c1
      replace c2 := cell_stays hbw c2
      replace c3 := cell_stays hbw c3
      have hget := Lib.hid (List.getElem?_eq_getElem hlt)
      have hxok := bndOk_v (HBOK.out bs[k] (List.getElem_mem hlt))
      obtain ⟨x, hx⟩ : ∃ x, x = bs[k] := ⟨_, rfl⟩
      rw [← hx] at hget c0 c1 c2 c3 hxok
      clear hx
      obtain ⟨j, hj⟩ : ∃ j : Nat, x.v = (j : Int) := ⟨x.v.toNat, by omega⟩
      have HJ := Lib.hid hj
      rw [hj] at c0
      clear hj hxok
      by_cases hv : (N : Int) ≤ (j : Int)
      · have HX : Hid (R = ([], 10)) := Lib.hid (by
          rw [← HRR.out]
          exact envR_err ((envErr_scan HSE.out HIN.out HME.out).trans (scan_stop hget.out hI.out (envE1_10 (by rw [HJ.out]; exact hv)) (by decide)).symm) (by decide))
        have rr := World.cell?_setCell_same' wr ⟨Rb, 0, none⟩ (.slice none 0 0) (by rw [rc]; rfl)
        have HQ := Lib.hid rr
        clear rr
        go_wp2_with fail
        have rr := HQ.out
        rw [HX.out]
        exact bodyPost_ret (v := .tuple #[.agg #[.slice none 0 0], .int .i64 10]) (by simp [results, Tryz.results23, go_sem, rr]) rfl ⟨_, rfl, Sl.nil _ _ _ _ _ (Nat.zero_le _), bel_set hbw hRw _⟩
      · have hv' : ¬ (N : Int) ≤ (j : Int) := hv
        go_wp2_with fail
        refine (revent_any l x _ _ (HL.out.stays evtAt_stays hbw)).mono ?_
        obtain ⟨oe, hoe⟩ : ∃ oe, evOf l x = oe := ⟨_, rfl⟩
        have HEV := Lib.hid hoe
        rw [hoe]
        clear hoe
        rintro e w7 ⟨y, A9, c9, rfl, -, -, hb7⟩
        replace r3 := (hb7.block Rb (Nat.lt_of_lt_of_le hs3 hbr.size)).trans r3
        have hR7 : Rb < w7.heap.size := blk_lt r3
        have hbr7 := bel_tr hbr hb7
        have hbw7 := bel_tr HB3.out hbr7
        replace rc : w7.cell? ⟨Rb, 0, none⟩ = some (.slice none 0 0) := by rw [blk_cell r3]; rfl
        replace rf := blk_frozen r3 0
        clear hb7 x0 c0 c1 c2 c3 hbw hbr
        unfold evtV
        cases oe with
        | none =>
          have HX : Hid (R = ([], 6)) := Lib.hid (by
            rw [← HRR.out]
            exact envR_err ((envErr_scan HSE.out HIN.out HME.out).trans (scan_stop hget.out hI.out (envE1_6 (by rw [HJ.out]; omega) HEV.out) (by decide)).symm) (by decide))
          have hRne : Rb ≠ w7.heap.size := by omega
          have hRne' : w7.heap.size ≠ Rb := by omega
          have hcr : ∀ ob, (w7.alloc ob).cell? ⟨Rb, 0, none⟩ = some (.slice none 0 0) := fun ob => cell_stays (bel_one w7 ob) rc
          have hfr : ∀ ob, (w7.alloc ob).frozen? ⟨Rb, 0, none⟩ = false := fun ob => (World.frozen?_of_block (a := ⟨Rb, 0, none⟩) (Below.heap_alloc w7 ob Rb hR7)).trans rf
          go_wp2_with fail
          have rr := fun ob => cell_stays (bel_one (w7.setCell ⟨Rb, 0, none⟩ (.slice none 0 0)) ob) (World.cell?_setCell_same' w7 ⟨Rb, 0, none⟩ (.slice none 0 0) (by rw [rc]; rfl))
          rw [HX.out]
          exact bodyPost_ret (v := .tuple #[.agg #[.slice none 0 0], .int .i64 6]) (by simp [results, Tryz.results23, go_sem, rr]) rfl ⟨_, rfl, Sl.nil _ _ _ _ _ (Nat.zero_le _), bel_al (bel_set hbw7 hRw _) _⟩
        | some z =>
          go_wp2_with fail
          go_roundw
          case rel => exact ⟨k + 1, by omega, by go_num, Lib.hid (scan_go hget.out hI.out (envE1_0 (by rw [HJ.out]; omega) HEV.out)), by exact (by repeat (first | exact Below.refl _ _ | assumption | refine Below.drew ?_ | refine bel_al ?_ _ | refine bel_set ?_ (by omega) _ | refine bel_tr ?_ (by assumption)))⟩
          case measure => simp [intOf]; omega
    · have hk' : ¬ (k : Int) < (bs.length : Int) := by omega
      have hke : k = bs.length := by omega
      have hscan := (scan_end (Nat.le_of_eq hke.symm) hI.out).symm
      have HE : Hid (R = (envV l N bs, 0)) := Lib.hid (by rw [← HRR.out, envR_ok ((envErr_scan HSE.out HIN.out HME.out).trans hscan)]; rfl)
      have hall := fun b hb => envE1_ok (scan_const bs none hscan b hb)
      have HBD := Lib.hid (rbound_any l N bs (.slice A l.length c) (.slice C bs.length d) w wr HL.out hbw (HM.out.stays bndAt_stays hbw) hN16 hbl (fun b hb => ⟨(bndOk_v (HBOK.out b hb)).1, (hall b hb).1⟩) (fun b hb => (hall b hb).2))
      clear hscan hke hall hI
      go_wp2_with fail
      refine HBD.out.mono ?_
      rintro e w7 ⟨A9, c9, rfl, hv9, hv8, hb7⟩
      replace r3 := (hb7.block Rb (Nat.lt_of_lt_of_le hs3 hbr.size)).trans r3
      replace rc : w7.cell? ⟨Rb, 0, none⟩ = some (.slice none 0 0) := by rw [blk_cell r3]; rfl
      replace rf := blk_frozen r3 0
      have rr := World.cell?_setCell_same' w7 ⟨Rb, 0, none⟩ (.slice A9 (envV l N bs).length c9) (by rw [rc]; rfl)
      have HQ := Lib.hid rr
      have HV9 := Lib.hid (hv8 Rb (.slice A9 (envV l N bs).length c9) hRw (Nat.lt_of_lt_of_le hs3 hbr.size))
      have HB9 := Lib.hid (bel_tr hbw hb7)
      clear rr hv9 hv8 hb7
      go_wp2_with fail
      have rr := HQ.out
      rw [HE.out]
      exact bodyPost_ret (v := .tuple #[.agg #[.slice A9 (envV l N bs).length c9], .int .i64 0]) (by simp [results, Tryz.results23, go_sem, rr]) rfl ⟨_, rfl, HV9.out, bel_set HB9.out hRw _⟩
end Go.Proofs.YtclpglgigpjfoaaGreatDoor
