/- The error of a ledger, as the reference finds it. -/
import Derived.Test.YtlofjcicpkfcdaaGreatDoorLled
namespace Go.Proofs.YtlofjcicpkfcdaaGreatDoor
open Go.RowKit

set_option maxRecDepth 100000 in
set_option maxHeartbeats 2000000 in
theorem rlcheck_any (l : List Ety) (v : Value) (w : World) (hl : IsEnts w v l) :
    Calls Tryz.prog 12 #[v] w fun e w' => e = .returned (.int .i64 (ledErr l)) ∧ Below w.heap.size w w' := by
  unfold ledErr
  obtain ⟨A, c, rfl, h1, h2, hat⟩ := hl
  have hn := len_i64 h1 h2
  have HL := Lib.hid hat
  clear hat h1 h2
  by_cases hm : 4096 < l.length
  · rw [if_pos hm]
    have hm' : (4096 : Int) < (l.length : Int) := by omega
    go_enter Tryz.func12, Tryz.ntmps12
    go_wp2_with fail
    go_ret
    exact ⟨rfl, (by repeat (first | exact Below.refl _ _ | assumption | refine Below.drew ?_ | refine bel_al ?_ _ | refine bel_set ?_ (by omega) _ | refine bel_tr ?_ (by assumption)))⟩
  rw [if_neg hm]
  have hm' : ¬ (4096 : Int) < (l.length : Int) := by omega
  clear hm
  go_enter Tryz.func12, Tryz.ntmps12
  go_wp2_with fail
  go_loopw [3] (fun i wr => ∃ k : Nat, k ≤ l.length ∧ i = .int .i64 k ∧ Hid (scanE entE (prevL l k) (l.drop k) = scanE entE none l) ∧ Below w.heap.size w wr) (fun i _ => l.length - (intOf i).toNat)
  case atStart => exact ⟨0, Nat.zero_le _, rfl, by exact Lib.hid rfl, Below.refl _ _⟩
  case round =>
    obtain ⟨k, hk, rfl, hi, hb⟩ := hrel
    by_cases hlt : k < l.length
    · have hk' : (k : Int) < (l.length : Int) := by omega
      obtain ⟨b, o, rfl, v', hv', c0, c1, c2⟩ := HL.out k l[k] (List.getElem?_eq_getElem hlt)
      replace c0 := cell_stays hb c0
      replace c1 := cell_stays hb c1
      replace c2 := cell_stays hb c2
      have hv := hv'.stays bndAt_stays hb
      obtain ⟨A', c', rfl, -⟩ := hv'
      have hbl : b < wr.heap.size := World.block_lt_of_cell? wr ⟨b, _, none⟩ c0
      have hnb : b ≠ wr.heap.size := by omega
      have hnb' : wr.heap.size ≠ b := by omega
      have hget := Lib.hid (List.getElem?_eq_getElem hlt)
      obtain ⟨x, hx⟩ : ∃ x, x = l[k] := ⟨_, rfl⟩
      rw [← hx] at hget c0 c1 c2 hv
      have HV := Lib.hid hv
      clear hx hv
      obtain ⟨E0, hE0⟩ : ∃ e, matErr x.bs = e := ⟨_, rfl⟩
      have HE := Lib.hid hE0
      clear hE0
      obtain ⟨g0, hg0⟩ : ∃ g, greatI x.n = g := ⟨_, rfl⟩
      have HGR := Lib.hid hg0
      clear hg0
      have HSUB := Lib.hid (fun W (hW : Below wr.heap.size wr W) => rmcheck_any x.bs _ W (HV.out.stays bndAt_stays hW))
      unfold matV at HSUB
      obtain ⟨qb, hqb⟩ : ∃ q, qOk x.q = q := ⟨_, rfl⟩
      have HQ := Lib.hid hqb
      clear hqb
      cases qb with
      | false =>
        go_wp2_with (go_at_call 30; refine (rquery_any _ _).mono ?_; rw [HQ.out]; rintro e w' ⟨rfl, rfl⟩)
        go_ret
        exact ⟨ret_i (scan_stop hget.out hi.out (by rw [entE_subj (by unfold subjE; rw [if_pos HQ.out]; decide), subjE, if_pos HQ.out]) (by decide)), hb⟩
      | true =>
      have HSE : Hid (subjE x.q x.bs = E0) := Lib.hid (by rw [subjE, if_neg (by simp [HQ.out])]; exact HE.out)
      by_cases hE : E0 = 0
      case neg =>
        have hE' : (E0 != 0) = true := by simpa using hE
        have HN := Lib.hid hE
        clear hE
        go_wp2_with (first | (go_at_call 30; refine (rquery_any _ _).mono ?_; rw [HQ.out]; rintro e w' ⟨rfl, rfl⟩) | (go_at_call 34; refine (HSUB.out _ (Below.refl _ _)).mono ?_; rw [HE.out]; rintro e w4 ⟨rfl, hb4⟩; replace c0 := cell_stays hb4 c0; replace c1 := cell_stays hb4 c1; replace c2 := cell_stays hb4 c2) | (go_at_call 35; refine (rgreat_any _ _).mono ?_; rw [HGR.out]; rintro e w' ⟨rfl, rfl⟩))
        go_ret
        exact ⟨ret_i (scan_stop hget.out hi.out (by rw [entE_subj (by rw [HSE.out]; exact HN.out), HSE.out]) HN.out), bel_tr hb hb4⟩
      subst hE
      by_cases hn0 : x.n = 0
      · have hn0' : (x.n == 0) = true := by simpa using hn0
        have HN := Lib.hid hn0
        clear hn0
        go_wp2_with (first | (go_at_call 30; refine (rquery_any _ _).mono ?_; rw [HQ.out]; rintro e w' ⟨rfl, rfl⟩) | (go_at_call 34; refine (HSUB.out _ (Below.refl _ _)).mono ?_; rw [HE.out]; rintro e w4 ⟨rfl, hb4⟩; replace c0 := cell_stays hb4 c0; replace c1 := cell_stays hb4 c1; replace c2 := cell_stays hb4 c2) | (go_at_call 35; refine (rgreat_any _ _).mono ?_; rw [HGR.out]; rintro e w' ⟨rfl, rfl⟩))
        go_ret
        exact ⟨ret_i (scan_stop hget.out hi.out (entE_3 HSE.out HN.out) (by decide)), bel_tr hb hb4⟩
      have hn0' : (x.n == 0) = false := by simpa using hn0
      have HN := Lib.hid hn0
      clear hn0
      cases g0 with
      | true =>
        go_wp2_with (first | (go_at_call 30; refine (rquery_any _ _).mono ?_; rw [HQ.out]; rintro e w' ⟨rfl, rfl⟩) | (go_at_call 34; refine (HSUB.out _ (Below.refl _ _)).mono ?_; rw [HE.out]; rintro e w4 ⟨rfl, hb4⟩; replace c0 := cell_stays hb4 c0; replace c1 := cell_stays hb4 c1; replace c2 := cell_stays hb4 c2) | (go_at_call 35; refine (rgreat_any _ _).mono ?_; rw [HGR.out]; rintro e w' ⟨rfl, rfl⟩))
        go_ret
        exact ⟨ret_i (scan_stop hget.out hi.out (entE_2 HSE.out HN.out HGR.out) (by decide)), bel_tr hb hb4⟩
      | false =>
      by_cases hk0 : k = 0
      · have HK := Lib.hid hk0
        have d1 : decide (0 < k) = false := by simp [hk0]
        have d2 : decide ((0 : Int) < (k : Int)) = false := by simp [hk0]
        clear hk0
        go_wp2_with (first | (go_at_call 30; refine (rquery_any _ _).mono ?_; rw [HQ.out]; rintro e w' ⟨rfl, rfl⟩) | (go_at_call 34; refine (HSUB.out _ (Below.refl _ _)).mono ?_; rw [HE.out]; rintro e w4 ⟨rfl, hb4⟩; replace c0 := cell_stays hb4 c0; replace c1 := cell_stays hb4 c1; replace c2 := cell_stays hb4 c2) | (go_at_call 35; refine (rgreat_any _ _).mono ?_; rw [HGR.out]; rintro e w' ⟨rfl, rfl⟩))
        refine wp_region_F (fun W => W.cell? ⟨b, o + k * 3, none⟩ = some (.int .i64 x.q) ∧ W.cell? ⟨b, o + k * 3 + 1, none⟩ = some (.slice A' x.bs.length c') ∧ W.cell? ⟨b, o + k * 3 + 2, none⟩ = some (.int .i64 x.n)) (by repeat (first | exact grows_cell _ _ _ | exact grows_true | refine grows_and ?_ ?_)) (by kernel_rfl) (by kernel_rfl) ?hF ?_; (case hF => (first | exact ⟨‹_›, ‹_›⟩ | (go_simp; done) | (simp [*]; done) | (repeat' (first | (refine And.intro ?_ ?_) | (go_simp; done) | exact cell_stays (bel_al (Below.refl _ _) _) (by assumption) | assumption)))); intro hne hxx; have hG : Hid (Grows (fun W => W.cell? ⟨b, o + k * 3, none⟩ = some (.int .i64 x.q) ∧ W.cell? ⟨b, o + k * 3 + 1, none⟩ = some (.slice A' x.bs.length c') ∧ W.cell? ⟨b, o + k * 3 + 2, none⟩ = some (.int .i64 x.n))) := (by repeat (first | exact grows_cell _ _ _ | exact grows_true | refine grows_and ?_ ?_)); (repeat (go_big_quiet_step (fail))); clear hG hxx hne; refine wpQuiet_nil ?_; rintro _ ⟨⟨w', hb', hF'⟩, rfl⟩
        go_wp2_with fail
        go_roundw
        case rel => exact ⟨k + 1, by omega, by go_num, Lib.hid (scan_go hget.out hi.out (entE_first HSE.out HN.out HGR.out HK.out)), bel_tr (bel_tr hb hb4) hb'⟩
        case measure => simp [intOf]; omega
      · have hk1 : (0 : Int) ≤ (k : Int) - 1 := by omega
        have hk2 : (k : Int) - 1 < (l.length : Int) := by omega
        have d1 : decide (0 < k) = true := by simp; omega
        have d2 : decide ((0 : Int) < (k : Int)) = true := by simp; omega
        have HK := Lib.hid hk0
        clear hk0
        obtain ⟨_, _, hbo, v2, hv2, p0, p1, p2⟩ := HL.out (k - 1) l[k - 1] (List.getElem?_eq_getElem (by omega))
        simp only [Option.some.injEq, Addr.mk.injEq, and_true] at hbo
        obtain ⟨rfl, rfl⟩ := hbo
        replace p0 := cell_stays hb p0
        replace p1 := cell_stays hb p1
        replace p2 := cell_stays hb p2
        have hvp := hv2.stays bndAt_stays hb
        obtain ⟨A2, c2', rfl, -⟩ := hv2
        have hgetp := Lib.hid (List.getElem?_eq_getElem (l := l) (i := k - 1) (by omega))
        obtain ⟨p, hp⟩ : ∃ p, p = l[k - 1] := ⟨_, rfl⟩
        rw [← hp] at p0 p1 p2 hgetp hvp
        have HVP := Lib.hid hvp
        clear hp hvp
        obtain ⟨r, hr⟩ : ∃ r, entC p x = r := ⟨_, rfl⟩
        have HRR := Lib.hid (fun W (hW : Below wr.heap.size wr W) => gr_bel (rorder_any p x _ _ W (HVP.out.stays bndAt_stays hW) (HV.out.stays bndAt_stays hW)) hr)
        unfold entV at HRR
        have HR := Lib.hid hr
        clear hr
        go_wp2_with (first | (go_at_call 30; refine (rquery_any _ _).mono ?_; rw [HQ.out]; rintro e w' ⟨rfl, rfl⟩) | (go_at_call 34; refine (HSUB.out _ (Below.refl _ _)).mono ?_; rw [HE.out]; rintro e w4 ⟨rfl, hb4⟩; replace c0 := cell_stays hb4 c0; replace c1 := cell_stays hb4 c1; replace c2 := cell_stays hb4 c2; replace p0 := cell_stays hb4 p0; replace p1 := cell_stays hb4 p1; replace p2 := cell_stays hb4 p2) | (go_at_call 35; refine (rgreat_any _ _).mono ?_; rw [HGR.out]; rintro e w' ⟨rfl, rfl⟩))
        refine wp_region_F (fun W => W.cell? ⟨b, o + k * 3, none⟩ = some (.int .i64 x.q) ∧ W.cell? ⟨b, o + k * 3 + 1, none⟩ = some (.slice A' x.bs.length c') ∧ W.cell? ⟨b, o + k * 3 + 2, none⟩ = some (.int .i64 x.n) ∧ W.cell? ⟨b, o + (k - 1) * 3, none⟩ = some (.int .i64 p.q) ∧ W.cell? ⟨b, o + (k - 1) * 3 + 1, none⟩ = some (.slice A2 p.bs.length c2') ∧ W.cell? ⟨b, o + (k - 1) * 3 + 2, none⟩ = some (.int .i64 p.n)) (by repeat (first | exact grows_cell _ _ _ | exact grows_true | refine grows_and ?_ ?_)) (by kernel_rfl) (by kernel_rfl) ?hF ?_; (case hF => (first | exact ⟨‹_›, ‹_›⟩ | (go_simp; done) | (simp [*]; done) | (repeat' (first | (refine And.intro ?_ ?_) | (go_simp; done) | exact cell_stays (bel_al (Below.refl _ _) _) (by assumption) | assumption)))); intro hne hxx; have hG : Hid (Grows (fun W => W.cell? ⟨b, o + k * 3, none⟩ = some (.int .i64 x.q) ∧ W.cell? ⟨b, o + k * 3 + 1, none⟩ = some (.slice A' x.bs.length c') ∧ W.cell? ⟨b, o + k * 3 + 2, none⟩ = some (.int .i64 x.n) ∧ W.cell? ⟨b, o + (k - 1) * 3, none⟩ = some (.int .i64 p.q) ∧ W.cell? ⟨b, o + (k - 1) * 3 + 1, none⟩ = some (.slice A2 p.bs.length c2') ∧ W.cell? ⟨b, o + (k - 1) * 3 + 2, none⟩ = some (.int .i64 p.n))) := (by repeat (first | exact grows_cell _ _ _ | exact grows_true | refine grows_and ?_ ?_)); (repeat (go_big_quiet_step ((go_at_call 36; exact cls_callB hG (fun W hW => HRR.out W (bel_tr hb4 hW)))))); clear hG hxx hne; refine wpQuiet_nil ?_; rintro _ ⟨⟨w', hb', hF'⟩, rfl⟩
        by_cases hr0 : 0 ≤ r
        · have d3 : decide (0 ≤ r) = true := by simpa using hr0
          go_wp2_with fail
          go_ret
          exact ⟨ret_i (scan_stop hget.out hi.out (entE_14 HSE.out HN.out HGR.out HK.out hgetp.out (by rw [HR.out]; exact hr0)) (by decide)), bel_tr (bel_tr hb hb4) hb'⟩
        · have d3 : decide (0 ≤ r) = false := by simpa using hr0
          go_wp2_with fail
          go_roundw
          case rel => exact ⟨k + 1, by omega, by go_num, Lib.hid (scan_go hget.out hi.out (entE_0 HSE.out HN.out HGR.out HK.out hgetp.out (by rw [HR.out]; omega))), bel_tr (bel_tr hb hb4) hb'⟩
          case measure => simp [intOf]; omega
    · have hk' : ¬ (k : Int) < (l.length : Int) := by omega
      go_wp2_with fail
      go_ret
      exact ⟨ret_i (scan_end (by omega) hi.out), hb⟩
end Go.Proofs.YtlofjcicpkfcdaaGreatDoor
