/- The law MatchRecovers: the environment of a match has as many events as the match, and the match can be recovered from it; its first and last times are those of Span. No condition beyond the row's own. -/
import Derived.Test.YtclpglgigpjfoaaGreatDoorTie
import Derived.Test.YtclpglgigpjfoaaGreatDoorCards
import Derived.Test.YtclpglgigpjfoaaGreatDoorMread
import Derived.Test.YtclpglgigpjfoaaGreatDoorMawake
import Derived.Test.YtclpglgigpjfoaaGreatDoorMfew
import Derived.Test.YtclpglgigpjfoaaGreatDoorMenv
import Derived.Test.YtclpglgigpjfoaaGreatDoorMhas
import Derived.Test.YtclpglgigpjfoaaGreatDoorMspan
import Derived.Test.YtclpglgigpjfoaaGreatDoorMeqb
import Derived.Test.YtclpglgigpjfoaaGreatDoorMrecp
namespace Go.Proofs.YtclpglgigpjfoaaGreatDoor
open Go.ChangeShapes Go.WideShapes Go.ChangeAt Go.RowKit Go.Deep

theorem mats_one' {w : World} {b : Nat} {va : Value} {x : List Bnd} (h0 : w.cell? ⟨b, 0, none⟩ = some va) (ha : IsBnds w va x) : IsMats w (.slice (some ⟨b, 0, none⟩) 1 1) [x] :=
  ⟨_, 1, rfl, Nat.le_refl _, by decide, fun k u hk => ⟨b, 0, rfl, by
    match k, hk with
    | 0, hk => simp at hk; subst hk; exact ⟨va, ha, h0⟩
    | k + 1, hk => simp at hk⟩⟩

set_option maxRecDepth 100000 in
set_option maxHeartbeats 8000000 in
theorem recov_walk (l : List Evt) (v : Value) (a : List Bnd) (va : Value) (w : World) (hl : IsEvts w v l) (ha : IsBnds w va a) (hx : Lx w) :
    Calls Tryz.prog 8 #[v, matV va] w fun e w' => e = .returned (.bool true) ∧ Below w.heap.size w w' := by
  have HA := Lib.hid ha
  have HL := Lib.hid hl
  have HX := Lib.hid hx
  obtain ⟨A, ca, rfl, hca, hcm, -⟩ := ha
  have hna := len_i64 hca hcm
  obtain ⟨B, cb, rfl, -⟩ := hl
  clear hx hcm
  unfold matV
  obtain ⟨t, ht⟩ : ∃ t, fewE l = t := ⟨_, rfl⟩
  have HS := Lib.hid ht
  clear ht
  go_enter Tryz.func8, Tryz.ntmps8
  go_wp2_with fail
  refine calls_gen fun w1 e0 => ?_
  have c0 : w1.cell? ⟨w.heap.size, 0, none⟩ = some (.slice A a.length ca) := by rw [e0]; go_simp
  have hb0 : Below w.heap.size w w1 := by rw [e0]; exact (by repeat (first | exact Below.refl _ _ | assumption | refine Below.drew ?_ | refine bel_al ?_ _ | refine bel_set ?_ (by omega) _ | refine bel_tr ?_ (by assumption)))
  clear e0
  refine (few05_any l _ w1 (HL.out.stays evtAt_stays hb0)).mono ?_
  rw [HS.out]
  rintro e wz ⟨rfl, rfl⟩
  have HB1 := Lib.hid hb0
  clear hb0
  obtain ⟨X, hX⟩ : ∃ X, X = w.heap.size := ⟨_, rfl⟩
  rw [← hX] at c0 ⊢
  clear hX
  cases t with
  | false =>
    go_wp2_with fail
    refine (awake_any _ (HX.out.stays HB1.out)).mono ?_
    rintro e w3 ⟨rfl, hb3⟩
    go_wp2_with fail
    go_ret
    exact ⟨rfl, bel_tr HB1.out hb3⟩
  | true =>
  have hXl : X < w1.heap.size := World.block_lt_of_cell? w1 ⟨X, _, none⟩ c0
  have hXn : X ≠ w1.heap.size := by omega
  have hXn' : w1.heap.size ≠ X := by omega
  obtain ⟨t2, ht2⟩ : ∃ t, fewM [a] = t := ⟨_, rfl⟩
  have HS2 := Lib.hid ht2
  clear ht2
  go_wp2_with fail
  refine calls_gen fun W1 e1 => ?_
  have y0 : W1.cell? ⟨w1.heap.size, 0, none⟩ = some (.slice A a.length ca) := by rw [e1]; go_simp
  have hb1 : Below w1.heap.size w1 W1 := by rw [e1]; exact (by repeat (first | exact Below.refl _ _ | assumption | refine Below.drew ?_ | refine bel_al ?_ _ | refine bel_set ?_ (by omega) _ | refine bel_tr ?_ (by assumption)))
  replace c0 := cell_stays hb1 c0
  clear e1
  have HB2 := Lib.hid (bel_tr HB1.out hb1)
  refine (few17_any [a] _ W1 (mats_one' y0 (HA.out.stays bndAt_stays HB2.out))).mono ?_
  rw [HS2.out]
  rintro e w2 ⟨rfl, rfl⟩
  clear y0 hb1 hXl hXn hXn'
  cases t2 with
  | false =>
    go_wp2_with fail
    refine (awake_any _ (HX.out.stays HB2.out)).mono ?_
    rintro e w3 ⟨rfl, hb3⟩
    go_wp2_with fail
    go_ret
    exact ⟨rfl, bel_tr HB2.out hb3⟩
  | true =>
  have hal := (fewM_parts HS2.out).2 a (by simp)
  obtain ⟨hll, hvals⟩ := fewE_parts HS.out
  obtain ⟨⟨E, er⟩, hE⟩ : ∃ r, envR l 16 a = r := ⟨_, rfl⟩
  have HE := Lib.hid hE
  have hHV : Hid (∀ e ∈ l, e.vals.length ≤ 1048576) := Lib.hid (fun e he => by have := (hvals e he).1; omega)
  clear hE hvals
  go_wp2_with fail
  refine (env_any l 16 a _ _ W1 (HL.out.stays evtAt_stays HB2.out) (HA.out.stays bndAt_stays HB2.out) hHV.out).mono ?_
  rw [HE.out]
  rintro e w3 ⟨v3, rfl, hv3, hb3⟩
  have HV3 := Lib.hid hv3
  obtain ⟨A3, c3, rfl, -⟩ := hv3
  replace c0 := cell_stays hb3 c0
  have HB3 := Lib.hid (bel_tr HB2.out hb3)
  clear hb3
  by_cases her : er = 0
  case neg =>
    have hE0 : E = [] := by
      have h := HE.out
      unfold envR at h
      split at h
      · injection h with _ h2; exact absurd h2.symm her
      · injection h with h1 _; exact h1.symm
    subst hE0
    have her' : (er != 0) = true := by simpa using her
    clear her
    go_wp2_with fail
    refine calls_gen fun W9 e9 => ?_
    have hb9 : Below w3.heap.size w3 W9 := by rw [e9]; exact (by repeat (first | exact Below.refl _ _ | assumption | refine Below.drew ?_ | refine bel_al ?_ _ | refine bel_set ?_ (by omega) _ | refine bel_tr ?_ (by assumption)))
    clear e9
    refine (awake_any _ (HX.out.stays (bel_tr HB3.out hb9))).mono ?_
    rintro e w4 ⟨rfl, hb4⟩
    go_wp2_with fail
    go_ret
    exact ⟨rfl, bel_tr (bel_tr HB3.out hb9) hb4⟩
  subst her
  have hE0 : envErr l 16 a = 0 ∧ E = envV l 16 a := by
    have h := HE.out
    unfold envR at h
    split at h
    · rename_i h0; injection h with h1 _; exact ⟨h0, h1.symm⟩
    · rename_i h0; injection h with _ h2; exact absurd h2 h0
  obtain ⟨hE0, hEV⟩ := hE0
  obtain ⟨hstr, hmat, hall⟩ := rec_parts hE0
  have hElen : E.length = 16 := by rw [hEV]; exact envV_len l 16 a
  have hvv : ∀ b ∈ a, 0 ≤ b.v ∧ b.v < ((16 : Nat) : Int) := fun b hb => (hall b hb).1
  have HEA : Hid (∀ k, k < 16 → E[k]? = some ((ofVar k a).filterMap (evOf l))) := Lib.hid (fun k hk => by rw [hEV]; exact envV_at l hvv hk)
  have HSOME : Hid (∀ b ∈ a, (evOf l b).isSome = true) := Lib.hid (fun b hb => (hall b hb).2)
  have HVV := Lib.hid hvv
  have HASC := Lib.hid (mat_asc hmat)
  have HMAT := Lib.hid hmat
  have HNE := Lib.hid (mat_ok hmat).1
  obtain ⟨A3', c3', he3, hs1, hs2, hat3⟩ := HV3.out
  simp only at he3 hat3 hs1
  injection he3 with e1 _ e3
  subst e1 e3
  have HAT := Lib.hid hat3
  have hn3 := len_i64 hs1 hs2
  have HEL := Lib.hid hElen
  have HC0 := Lib.hid c0
  obtain ⟨i0, hi, hz0, hz1, hz2⟩ := info_parts info_bnd
  clear hE0 hEV hstr hmat hall hvv hs1 hs2 hat3 c0 hElen
  go_wp2_with fail
  go_loopw [7, 43] (fun av i wr => ∃ k : Nat, k ≤ 16 ∧ i = .int .i64 k ∧ Hid (wr.ownsRow w3.heap.size 79 4 av (backL a k).length (bdCells (backL a k))) ∧ Below w3.heap.size w3 wr) (fun _ i _ => 16 - (intOf i).toNat)
  case atStart => exact ⟨0, Nat.zero_le _, rfl, Lib.hid ⟨rfl, .inl ⟨rfl, rfl⟩⟩, bel_one _ _⟩
  case round =>
    obtain ⟨k, hk, rfl, hrow, hb⟩ := hrel
    by_cases hlt : k < 16
    · have hk' : (k : Int) < (E.length : Int) := by rw [HEL.out]; omega
      have hEk := HEA.out k hlt
      obtain ⟨b3, o3, rfl, uv, huv, d0⟩ := HAT.out k _ hEk
      rw [Nat.mul_one] at d0
      obtain ⟨Ev, hEv⟩ : ∃ Ev, (ofVar k a).filterMap (evOf l) = Ev := ⟨_, rfl⟩
      rw [hEv] at huv
      have HIS : Hid (Ev.map (asBnd k) = ofVar k a) := Lib.hid (by rw [← hEv]; exact ev_is (fun b hb => HSOME.out b (ofVar_mem b hb)) (fun b hb => ofVar_v b hb))
      have HEAS : Hid (Ev.Pairwise fun a b => refsC (eRef a) (eRef b) < 0) := Lib.hid (by rw [← hEv]; exact ev_asc (ofVar_asc HASC.out))
      have HEM : Hid (∀ e ∈ Ev, e ∈ l) := Lib.hid (fun e he => by
        rw [← hEv] at he
        obtain ⟨b, _, hb⟩ := List.mem_filterMap.1 he
        exact (evOf_ref hb).2)
      replace d0 := cell_stays hb d0
      have HUV3 := Lib.hid huv
      have HUV := Lib.hid (huv.stays evtAt_stays hb)
      obtain ⟨Au, cu, rfl, -⟩ := huv
      have hrl := slice_own hrow.out
      obtain ⟨Ar, cr, rfl⟩ := hrl
      obtain ⟨wa, hwa⟩ : ∃ wa : World, wa = wr := ⟨_, rfl⟩
      subst hwa
      have HBA := Lib.hid hb
      clear hEk hEv hb
      go_wp2_with fail
      refine (isSorted_any Ev _ wa HUV.out HEAS.out).mono ?_
      rintro e w5 ⟨rfl, hb5⟩
      have HB5 := Lib.hid (bel_tr HBA.out hb5)
      have HROW5 := Lib.hid (ownsRow_below hrow.out hb5)
      obtain ⟨Au', cu', hu, hu1, hu2, hu3⟩ := HUV3.out
      injection hu with e1 _ e3
      subst e1 e3
      have hnu := len_i64 hu1 hu2
      have HAU := Lib.hid hu3
      have hevl : Ev.length = (ofVar k a).length := by rw [← HIS.out, List.length_map]
      have HEVL := Lib.hid hevl
      clear hb5 hu1 hu2 hu3 hrow d0 hevl
      go_wp2_with fail
      go_loopw [7, 53] (fun av i wr => ∃ j : Nat, j ≤ Ev.length ∧ i = .int .i64 j ∧ Hid (wr.ownsRow w3.heap.size 79 4 av (backL a k ++ (ofVar k a).take j).length (bdCells (backL a k ++ (ofVar k a).take j))) ∧ Below w3.heap.size w3 wr) (fun _ i _ => Ev.length - (intOf i).toNat)
      case atStart => exact ⟨0, Nat.zero_le _, rfl, Lib.hid (by rw [List.take_zero, List.append_nil]; exact HROW5.out), HB5.out⟩
      case round =>
        obtain ⟨j, hj, rfl, hrow, hb3⟩ := hrel
        obtain ⟨L, hLn⟩ : ∃ L, backL a k ++ (ofVar k a).take j = L := ⟨_, rfl⟩
        have HLN := Lib.hid hLn
        rw [hLn] at hrow
        have hav := slice_own hrow.out
        obtain ⟨Aj, cj, rfl⟩ := hav
        by_cases hltj : j < Ev.length
        · have hj' : (j : Int) < (Ev.length : Int) := by omega
          obtain ⟨be, oe, rfl, uw, huw, p0, p1, p2, p3, p4⟩ := HAU.out j Ev[j] (List.getElem?_eq_getElem hltj)
          have hget := List.getElem?_eq_getElem hltj
          have hmem := HEM.out Ev[j] (List.getElem_mem hltj)
          obtain ⟨x, hx⟩ : ∃ x, x = Ev[j] := ⟨_, rfl⟩
          rw [← hx] at huw p0 p1 p2 p3 hget hmem
          clear hx
          have hgb : (ofVar k a)[j]? = some (asBnd k x) := by rw [← HIS.out, List.getElem?_map, hget]; rfl
          have HGB := Lib.hid hgb
          replace p0 := cell_stays hb3 p0
          replace p1 := cell_stays hb3 p1
          replace p2 := cell_stays hb3 p2
          replace p3 := cell_stays hb3 p3
          replace p4 := cell_stays hb3 p4
          have HUW := Lib.hid (huw.stays vlAt_stays hb3)
          obtain ⟨Aw, cw, rfl, -⟩ := huw
          have hbel : be < wr.heap.size := World.block_lt_of_cell? wr ⟨be, _, none⟩ p0
          have n1 : be ≠ wr.heap.size := by omega
          have n2 : wr.heap.size ≠ be := by omega
          have HANY : Hid ((l.any fun y => evEq y x) = true) := Lib.hid (List.any_eq_true.2 ⟨x, hmem, evEq_self x⟩)
          have HHAS : Hid (∀ W, Below wr.heap.size wr W → Calls Tryz.prog 38 #[.slice B l.length cb, .agg #[.int .i64 x.src, .int .i64 x.sq, .int .i64 x.ty, .int .i64 x.tm, .slice Aw x.vals.length cw]] W fun e w' => e = .returned (.bool true) ∧ Below W.heap.size W w') := Lib.hid (fun W hW => by
            rw [← HANY.out]
            exact rhas_any l x _ (.slice Aw x.vals.length cw) W (((HL.out.stays evtAt_stays HB3.out).stays evtAt_stays hb3).stays evtAt_stays hW) (HUW.out.stays vlAt_stays hW))
          have HBB3 := Lib.hid hb3
          have hLlen : L.length ≤ 100000 := by
            rw [← hLn, List.length_append, List.length_take]
            have h1 : (backL a k).length ≤ 1000 := by
              unfold backL
              have : ∀ n, ((List.range n).flatMap fun v => ofVar v a).length ≤ n * 20 := by
                intro n
                induction n with
                | zero => simp
                | succ n ih =>
                  rw [List.range_succ, List.flatMap_append, List.length_append]
                  have h2 : (ofVar n a).length ≤ a.length := List.length_filter_le _ _
                  simp only [List.flatMap_cons, List.flatMap_nil, List.append_nil]
                  omega
              have := this k
              omega
            have h2 : (ofVar k a).length ≤ a.length := List.length_filter_le _ _
            omega
          have HROW := hrow
          clear hget hmem hgb hb3 hLn hrow
          go_wp2_with fail
          refine calls_gen fun W9 e9 => ?_
          have q0 : W9.cell? ⟨wr.heap.size, 0, none⟩ = some (.int .i64 x.src) := by rw [e9]; go_simp
          have q1 : W9.cell? ⟨wr.heap.size, 1, none⟩ = some (.int .i64 x.sq) := by rw [e9]; go_simp
          have q2 : W9.cell? ⟨wr.heap.size, 2, none⟩ = some (.int .i64 x.ty) := by rw [e9]; go_simp
          have q3 : W9.cell? ⟨wr.heap.size, 3, none⟩ = some (.int .i64 x.tm) := by rw [e9]; go_simp
          have q4 : W9.cell? ⟨wr.heap.size, 4, none⟩ = some (.slice Aw x.vals.length cw) := by rw [e9]; go_simp
          have hb9 : Below wr.heap.size wr W9 := by rw [e9]; exact (by repeat (first | exact Below.refl _ _ | assumption | refine Below.drew ?_ | refine bel_al ?_ _ | refine bel_set ?_ (by omega) _ | refine bel_tr ?_ (by assumption)))
          clear e9
          refine (HHAS.out W9 hb9).mono ?_
          rintro e w6 ⟨rfl, hb6⟩
          have hb96 := bel_tr hb9 hb6
          replace q0 := cell_stays hb6 q0
          replace q1 := cell_stays hb6 q1
          replace q2 := cell_stays hb6 q2
          replace q3 := cell_stays hb6 q3
          replace q4 := cell_stays hb6 q4
          have HB6 := Lib.hid hb96
          clear hb9 hb6 hb96 p0 p1 p2 p3 p4 n1 n2
          go_wp2_with fail
          refine (rRef_bel _ _ _ _ _ _ _ _).mono ?_
          rintro e w7 ⟨rfl, hb7⟩
          have HB7 := Lib.hid (bel_tr HB6.out hb7)
          have HR7 := Lib.hid (ownsRow_below HROW.out HB7.out)
          clear q0 q1 q2 q3 q4 hb7
          have hs7 : w3.heap.size ≤ w7.heap.size := Nat.le_trans HBB3.out.size HB7.out.size
          go_wp2_with (at_builtin; refine wpList_app _ rfl (.tmp 61) (.tmp 66) 22 rfl w3.heap.size 79 i0 _ 4 32 Tryz.underlying22 hi hz0 hz1 hz2 rfl (by decide) (.slice Aj L.length cj) L.length (bdCells L) rfl (ownsRow_below HR7.out (bel_one _ _)) (some ⟨w7.heap.size, 0, none⟩) 1 1 (bdEnc (asBnd k x)) rfl (src_new' _ (bdEnc (asBnd k x)) _ 1 4 _ rfl rfl (by intro u hu; simp only [bdEnc, List.mem_cons, List.not_mem_nil, or_false] at hu; rcases hu with rfl | rfl | rfl | rfl <;> rfl)) (by unfold maxLen; omega) (by omega) (by simp; omega) ?_; intro v8 w8 hown8 hg8 hloc8)
          have hb8 : Below w3.heap.size w3 w8 := (bel_al (bel_tr HBB3.out HB7.out) _).trans (grown_below hg8 (by simp; omega) (fun g h => (ownsRow_lt HROW.out h).1))
          refine ⟨⟨j + 1, by omega, by go_num, Lib.hid ?_, hb8⟩, by simp [intOf]; omega⟩
          have h1 : backL a k ++ (ofVar k a).take (j + 1) = L ++ [asBnd k x] := by rw [take_snoc' HGB.out, ← List.append_assoc, HLN.out]
          rw [h1, List.length_append, bdCells_app]
          exact hown8
        · have hj' : ¬ (j : Int) < (Ev.length : Int) := by omega
          have hje : Hid (L = backL a (k + 1)) := Lib.hid (by
            rw [← HLN.out, backL_succ, List.take_of_length_le (by have := HEVL.out; omega)])
          clear hLn
          go_wp2_with fail
          exact ⟨⟨k + 1, by omega, by go_num, Lib.hid (by rw [← hje.out]; exact hrow.out), hb3⟩, by simp [intOf]; omega⟩
    · have hk' : ¬ (k : Int) < (E.length : Int) := by rw [HEL.out]; omega
      have hk16 : k = 16 := by omega
      subst hk16
      have hp := back_perm HVV.out
      have hbl : (backL a 16).length = a.length := backL_len HVV.out
      have hrl := own_cur hrow.out
      have hne := List.length_pos_iff.2 HNE.out
      rcases hrl with ⟨_, h0⟩ | ⟨g, cap, spare, rfl, hg, hh, hnc, hcm, hl2, hx2⟩
      · omega
      have HHC : Hid (∀ (j : Nat) (x : Bnd), (backL a 16)[j]? = some x → BndAt wr g (0 + j * 4) x) := Lib.hid (fun j x hj => by
        have c := fun r (hr : r < 4) => bdCells_at hj r hr
        have hjl := (List.getElem?_eq_some_iff.1 hj).1
        have hcell : ∀ r u, r < 4 → (bdEnc x)[r]? = some u → wr.cell? ⟨g, 0 + j * 4 + r, none⟩ = some u := fun r u hr hu => by
          rw [blk_cell hh, List.getElem?_append_left (by rw [hx2]; omega), Nat.zero_add, c r hr, hu]
        exact ⟨hcell 0 _ (by decide) rfl, hcell 1 _ (by decide) rfl, hcell 2 _ (by decide) rfl, hcell 3 _ (by decide) rfl⟩)
      rw [hbl] at hnc ⊢
      have HSO := Lib.hid (sortBnds_any (backL a 16) g cap _ wr hh HHC.out (by omega))
      rw [hbl] at HSO
      have HP := Lib.hid hp
      have HB := Lib.hid hb
      have HG := Lib.hid hg
      clear hk hp hbl hh hl2 hx2 hb hg hrow
      go_wp2_with fail
      refine HSO.out.mono ?_
      rintro e w5 ⟨rfl, es, hes1, hes2, hes3, hg5⟩
      have hea : es = a := back_is (n := 16) HVV.out HASC.out (hes1.trans (List.Perm.refl _)) (hes2.imp fun h => Int.not_lt.2 h)
      subst hea
      have hb5 : Below w3.heap.size w3 w5 := HB.out.trans (grown_below hg5 HB.out.size (fun g' h => by cases h; exact HG.out))
      have HB5 := Lib.hid (bel_tr HB3.out hb5)
      have c0 := cell_stays hb5 HC0.out
      have HBK : Hid (IsBnds w5 (.slice (some ⟨g, 0, none⟩) es.length cap) es) := Lib.hid ⟨_, cap, rfl, hnc, hcm, fun j x hj => ⟨g, 0, rfl, hes3 j x hj⟩⟩
      obtain ⟨m, hm⟩ : ∃ m, es.length = m + 1 := ⟨es.length - 1, by omega⟩
      obtain ⟨x, hx⟩ : ∃ x, es[0]? = some x := ⟨_, List.getElem?_eq_getElem (by omega)⟩
      obtain ⟨y, hy⟩ : ∃ y, es[m]? = some y := ⟨_, List.getElem?_eq_getElem (by omega)⟩
      have HSP := Lib.hid (spanR_ok HMAT.out hx (by rw [hm]; exact hy))
      have x1 := (hes3 0 x hx).2.1
      have y1 := (hes3 m y hy).2.1
      have HM := Lib.hid hm
      simp only [Nat.zero_mul, Nat.zero_add] at x1 y1
      have hm2 : (es.length : Int) = (m : Int) + 1 := by omega
      rw [hm2] at hna
      have hlc : m + 1 ≤ cap := by omega
      clear hb5 hes1 hes2 hes3 hg5 hx hy hm2 hm
      go_wp2_with fail
      refine (span_any es _ w5 (HA.out.stays bndAt_stays HB5.out)).mono ?_
      rw [HSP.out]
      unfold spanV
      rintro e w6 ⟨rfl, hb6⟩
      replace c0 := cell_stays hb6 c0
      replace x1 := cell_stays hb6 x1
      replace y1 := cell_stays hb6 y1
      have HB6 := Lib.hid (bel_tr HB5.out hb6)
      have HBK6 := Lib.hid (HBK.out.stays bndAt_stays hb6)
      clear hb6
      rw [HM.out] at c0 ⊢
      have hbk := HBK6.out
      have hak := HA.out.stays bndAt_stays HB6.out
      rw [HM.out] at hbk hak
      have HEQ := Lib.hid (equalB_any es es _ _ w6 hbk hak)
      rw [decide_eq_true rfl] at HEQ
      clear hbk hak
      go_wp2_with fail
      refine HEQ.out.mono ?_
      rintro e w7 ⟨rfl, hb7⟩
      replace c0 := cell_stays hb7 c0
      replace x1 := cell_stays hb7 x1
      replace y1 := cell_stays hb7 y1
      have HB7 := Lib.hid (bel_tr HB6.out hb7)
      clear hb7
      go_wp2_with fail
      refine (awake_any _ (HX.out.stays HB7.out)).mono ?_
      rintro e w8 ⟨rfl, hb8⟩
      go_wp2_with fail
      go_ret
      exact ⟨rfl, bel_tr HB7.out hb8⟩
-- FRAME
set_option maxRecDepth 100000 in
theorem recov_lifted (os : Os) (started : os.Started) (H : Type) (enc : TypeId × Value → H) :
    ReturnsInHanded {} Tryz.checked os 8 .any (fun w args => (Rows.matchRecoversSpec.pre enc Tryz.prog Tryz.f8 [] false w args ∧ laidMetH Tryz.prog theLaid w) ∧ sizedMet enc Tryz.prog Tryz.f8 (OpenSpec.ofChange Rows.matchRecoversSpec) false w args)
      (Rows.matchRecoversSpec.post enc Tryz.prog Tryz.f8 false true false false) := by
  refine handed_shaped_and (C := Tryz.checked) (X := fun w _ => laidMetH Tryz.prog theLaid w) (fun _ _ _ hh h => h.of_heap hh) own_none started (by kernel_rfl) Tryz.func8
    (ChangeSpec.witness_shaped (enc := enc) (C := Tryz.checked) (os := os) (X := fun w _ => laidMetH Tryz.prog theLaid w) false (World.doorLaid Tryz.prog 400 os) #[.slice none 0 0, .agg #[.slice none 0 0]] 8 rfl (World.shaped_of_RefB (by kernel_rfl) (by kernel_rfl)) (by kernel_rfl) (by kernel_rfl) (by kernel_rfl) (door_met os _)) ?_
  intro W base args ds gs before hval0 hW _ hsh hL _
  have htab : Lx W := ⟨tab_of_laid hL, Tryz.laysM144.s1_3 W hsh⟩
  have hval : ∀ (j : Nat) t v, Tryz.f8.params[j]? = some t → args[j]? = some v → Value.okWide Tryz.prog W .any base t v := hval0
  have hW' := hW
  obtain ⟨p, q, hA0, hV, rfl, hfz, hnd⟩ := hW
  have hA : DataW.TrodAll enc Tryz.prog W 0 (fun _ => true) true Tryz.f8.params.toList args.toList ds p := hA0
  rw [Tryz.params8] at hA hval
  obtain ⟨v0, vs0, d0, ds0, p0, q0, hargs, rfl, rfl, h0, r0⟩ := trodAll_cons hA
  obtain ⟨v1, vs1, d1, ds1, p1, q1, rfl, rfl, rfl, h1, r1⟩ := trodAll_cons r0
  obtain ⟨rfl, rfl, rfl⟩ := trodAll_nil r1
  obtain rfl : args = #[v0, v1] := by cases args; simp_all
  obtain ⟨rfl, rfl⟩ := trodVars_none hV
  have k0 := h0
  have lt0 : ∀ x ∈ p0, x.block < W.heap.size := by obtain ⟨m, hm⟩ := k0; exact DataW.trod_lt m _ _ _ hm
  obtain ⟨s0, len0, cap0, rfl⟩ := okWide_slice Tryz.underlying42 (hval 0 42 v0 rfl rfl)
  obtain ⟨l0, w0⟩ : ∃ l, IsEvts W (.slice s0 len0 cap0) l := by obtain ⟨fuel, hf⟩ := h0; exact read_evts (v := .slice s0 len0 cap0) hf
  have k1 := h1
  have lt1 : ∀ x ∈ p1, x.block < W.heap.size := by obtain ⟨m, hm⟩ := k1; exact DataW.trod_lt m _ _ _ hm
  obtain ⟨u1, l1, rfl, w1⟩ := read_mat_by_value (hval 1 24 v1 rfl rfl) h1
  clear hA0 hval0
  refine (recov_walk l0 _ l1 u1 W w0 w1 htab).mono fun e W' ⟨he, bel⟩ => ?_
  subst he
  exact ⟨_, rfl, _, _, _, [], _, [], hW', trodAll_mk1 (shut_bool Tryz.underlying4 _), (trodAll_cons_mk (Below.trod laid_out (by kernel_rfl) (of_decide_eq_true (by kernel_rfl)) k0 bel lt0) (trodAll_cons_mk (Below.trod laid_out (by kernel_rfl) (of_decide_eq_true (by kernel_rfl)) k1 bel lt1) trodAll_mk0)), rfl, bel.frame _, fun h => by cases h⟩

theorem recov_holds : Rows.MatchRecoversSaid :=
  OpenClaim.holds_of_wide 8 Tryz.f8 rfl rfl rfl rfl rfl rfl rfl ⟨rfl, rfl, rfl, rfl, rfl⟩ rfl rfl rfl rfl rfl (by kernel_rfl) Tryz.func8 (by kernel_rfl)
    (of_decide_eq_true (by kernel_rfl)) (by unfold Func.isWrapper; first | (rw [if_pos (by decide +kernel)]; kernel_rfl) | (rw [if_neg (by decide +kernel)]; exact ⟨rfl, rfl⟩))
    (fun os started H enc _ => recov_lifted os started H enc)

theorem recov_card : Rows.MatchRecoversCardSaid :=
  Claim7.holds_tied_plain_at .later [] [.data, .data, .data] true _ false
    recov_holds (fun _ h => by cases h) (by kernel_rfl) (fun _ h => by cases h) matchRecovers_row_tie rfl ⟨rfl, rfl⟩ (by kernel_rfl) rfl
    (fun f fn hf hfn => by
      obtain rfl : f = 8 := Option.some.inj ((show Tryz.prog.funcNamed "tidegate/tidegatelaw17.MatchRecovers" = some 8 by kernel_rfl).symm.trans hf) |>.symm
      obtain rfl : fn = Tryz.f8 := (Option.some.inj (Tryz.func8.symm.trans hfn)).symm
      exact ⟨by kernel_rfl, fun j t ht => by
        rw [Tryz.params8] at ht
        have hm : t ∈ [42, 24] := by simpa using Array.mem_of_getElem? ht
        have hall : ([42, 24].all fun u => !Tryz.prog.wantsStandIn u) = true := by kernel_rfl
        exact (show Tryz.prog.wantsStandIn t = false by simpa using List.all_eq_true.1 hall t hm)⟩)
    (by kernel_rfl)
#print axioms recov_card
end Go.Proofs.YtclpglgigpjfoaaGreatDoor
