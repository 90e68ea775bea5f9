/- ledger.Standing. -/
import Derived.Test.YtlofjcicpkfcdaaGreatDoorLapp
namespace Go.Proofs.YtlofjcicpkfcdaaGreatDoor
open Go.RowKit

def stands (q : Int) (x : Ety) : Bool := decide (x.q = q) && decide (0 < x.n)
def standR (l : List Ety) (q : Int) : List (List Bnd) × Int := if ledErr l ≠ 0 then ([], ledErr l) else if qOk q = false then ([], 2) else ((l.filter (stands q)).map (·.bs), 0)
def MatRet (w : World) (r : List (List Bnd) × Int) (e : Ending) (W : World) : Prop := ∃ v, e = .returned (.tuple #[v, .int .i64 r.2]) ∧ IsMats W v r.1 ∧ Below w.heap.size w W
/-- a row of matches of the call's own, each with its bindings elsewhere -/
structure MW (B : Nat) (wr : World) (av : Value) (ms : List (List Bnd × Value)) : Prop where
  row : wr.ownsRow B 30 1 av ms.length (ms.map (·.2))
  bnds : ∀ e ∈ ms, IsBnds wr e.2 e.1 ∧ ∀ g, e.2.ownBlock = some g → B ≤ g ∧ g < wr.heap.size ∧ some g ≠ av.ownBlock
theorem MW.nil (B : Nat) (w : World) : MW B w (.slice none 0 0) [] := ⟨⟨by simp, .inl ⟨rfl, rfl⟩⟩, by simp⟩
theorem MW.grow {B : Nat} {wr w1 : World} {av : Value} {ms : List (List Bnd × Value)} (h : MW B wr av ms) (hb : Below wr.heap.size wr w1) : MW B w1 av ms :=
  ⟨ownsRow_below h.row hb, fun e he => ⟨(h.bnds e he).1.stays bndAt_stays hb, fun g hg => by have := (h.bnds e he).2 g hg; exact ⟨this.1, Nat.lt_of_lt_of_le this.2.1 hb.size, this.2.2⟩⟩⟩
theorem MW.app {B : Nat} {w6 w7 : World} {av v7 u : Value} {ms : List (List Bnd × Value)} {bs : List Bnd} {o : Obj} (h : MW B w6 av ms) (hu : IsBnds w6 u bs) (hub : ∀ g, u.ownBlock = some g → B ≤ g ∧ g < w6.heap.size ∧ some g ≠ av.ownBlock)
    (hown : w7.ownsRow B 30 1 v7 (ms.length + 1) (ms.map (·.2) ++ [u])) (hg : (w6.alloc o).grownBy w7 av.ownBlock) (hloc : v7.ownBlock = av.ownBlock ∨ v7.ownBlock = some (w6.alloc o).heap.size) :
    MW B w7 v7 (ms ++ [(bs, u)]) := by
  have hkeep : ∀ g, g < w6.heap.size → some g ≠ av.ownBlock → w7.heap[g]? = w6.heap[g]? := fun g h1 h2 => (hg.block g (by simp; omega) h2).trans (Below.heap_alloc w6 o g h1)
  have hsz : w6.heap.size < w7.heap.size := Nat.lt_of_lt_of_le (by simp) hg.size
  refine ⟨by simpa using hown, ?_⟩
  intro e he
  have h0 : IsBnds w6 e.2 e.1 ∧ ∀ g, e.2.ownBlock = some g → B ≤ g ∧ g < w6.heap.size ∧ some g ≠ av.ownBlock := by
    rcases List.mem_append.1 he with he | he
    · exact h.bnds e he
    · simp at he; subst he; exact ⟨hu, hub⟩
  refine ⟨sl_kept h0.1 fun g hg1 => hkeep g (h0.2 g hg1).2.1 (h0.2 g hg1).2.2, fun g hg1 => ?_⟩
  have h1 := h0.2 g hg1
  refine ⟨h1.1, by omega, ?_⟩
  rcases hloc with hl | hl
  · rw [hl]; exact h1.2.2
  · rw [hl]; simp; omega
theorem MW.is {B : Nat} {wr : World} {av : Value} {ms : List (List Bnd × Value)} (h : MW B wr av ms) : IsMats wr av (ms.map (·.1)) := by
  have h1 : ∀ u ∈ ms.map (·.2), u.oneCell' = true := fun u hu => by
    obtain ⟨e, he, rfl⟩ := List.mem_map.1 hu
    exact sl_oneCell (h.bnds e he).1
  obtain ⟨A, c, rfl, h2, h3, h4⟩ := ownsRow_src h.row h1
  refine ⟨A, c, by rw [List.length_map], by rw [List.length_map]; exact h2, h3, fun k x hk => ?_⟩
  rw [List.getElem?_map] at hk
  obtain ⟨e, he, rfl⟩ := Option.map_eq_some_iff.1 hk
  have hkl := (List.getElem?_eq_some_iff.1 he).1
  obtain ⟨b, o, hA, hcs⟩ := h4.2.2 (by omega)
  exact ⟨b, o, hA, e.2, (h.bnds e (List.mem_of_getElem? he)).1, by rw [Nat.mul_one]; exact hcs k _ (by rw [List.getElem?_map, he]; rfl)⟩

set_option maxRecDepth 100000 in
set_option maxHeartbeats 2000000 in
theorem standing_any (l : List Ety) (q : Int) (v : Value) (w : World) (hl : IsEnts w v l) : Calls Tryz.prog 19 #[v, .int .i64 q] w (MatRet w (standR l q)) := by
  have HA := Lib.hid hl
  obtain ⟨A, c, rfl, h1, h2, hat⟩ := hl
  have hn := len_i64 h1 h2
  have HL := Lib.hid hat
  obtain ⟨j0, hj0, hy0, hy1, hy2⟩ := info_parts info_mat
  unfold standR
  obtain ⟨e1, he1⟩ : ∃ e, ledErr l = e := ⟨_, rfl⟩
  have HE1 := Lib.hid he1
  rw [he1]
  obtain ⟨qb, hqb⟩ : ∃ b, qOk q = b := ⟨_, rfl⟩
  have HQ := Lib.hid hqb
  rw [hqb]
  clear he1 hqb hat h1 h2
  by_cases h0 : e1 = 0
  case neg =>
    rw [if_pos h0]
    have h0' : (e1 != 0) = true := by simpa using h0
    go_enter Tryz.func19, Tryz.ntmps19
    go_wp2_with fail
    refine (lcheck_any l _ w HA.out).mono ?_
    rw [HE1.out]
    rintro e w2 ⟨rfl, hb2⟩
    go_wp2_with fail
    go_ret2
    exact ⟨_, rfl, Sl.nil _ _ _ _ _ (Nat.zero_le _), hb2⟩
  subst h0
  rw [if_neg (by simp)]
  cases qb with
  | false =>
    go_enter Tryz.func19, Tryz.ntmps19
    go_wp2_with fail
    refine (lcheck_any l _ w HA.out).mono ?_
    rw [HE1.out]
    rintro e w2 ⟨rfl, hb2⟩
    go_wp2_with (go_at_call 27; refine (queryErr_any _ _).mono ?_; rw [HQ.out]; rintro e w' ⟨rfl, rfl⟩)
    go_ret2
    exact ⟨_, rfl, Sl.nil _ _ _ _ _ (Nat.zero_le _), hb2⟩
  | true =>
  rw [if_neg (by simp)]
  obtain ⟨R, hR⟩ : ∃ R, (l.filter (stands q)).map (·.bs) = R := ⟨_, rfl⟩
  rw [hR]
  have HRR := Lib.hid hR
  clear hR
  have hlk := led_ok HE1.out
  have hl4 : l.length ≤ 4096 := hlk.2.2
  have HFIT := Lib.hid hlk.2.1
  clear hlk
  go_enter Tryz.func19, Tryz.ntmps19
  go_wp2_with fail
  refine (lcheck_any l _ w HA.out).mono ?_
  rw [HE1.out]
  rintro e w2 ⟨rfl, hb2⟩
  go_wp2_with (go_at_call 27; refine (queryErr_any _ _).mono ?_; rw [HQ.out]; rintro e w' ⟨rfl, rfl⟩)
  go_loopw [8, 23] (fun av i wr => ∃ (k : Nat) (ms : List (List Bnd × Value)), k ≤ l.length ∧ i = .int .i64 k ∧ Hid (ms.map (·.1) = ((l.take k).filter (stands q)).map (·.bs) ∧ MW w.heap.size wr av ms ∧ Below w.heap.size w wr)) (fun _ i _ => l.length - (intOf i).toNat)
  case atStart => exact ⟨0, [], Nat.zero_le _, rfl, Lib.hid ⟨rfl, MW.nil _ _, hb2⟩⟩
  case round =>
    obtain ⟨k, ms, hk, rfl, hI⟩ := hrel
    have hbr := hI.out.2.2
    by_cases hlt : k < l.length
    · have hk' : (k : Int) < (l.length : Int) := by omega
      obtain ⟨b, o, rfl, v', hv', c0, c1, c2⟩ := HL.out k l[k] (List.getElem?_eq_getElem hlt)
      replace c0 := cell_stays hbr c0
      replace c1 := cell_stays hbr c1
      replace c2 := cell_stays hbr c2
      have hget := Lib.hid (List.getElem?_eq_getElem hlt)
      have hfx := HFIT.out l[k] (List.getElem_mem hlt)
      obtain ⟨x, hx⟩ : ∃ x, x = l[k] := ⟨_, rfl⟩
      rw [← hx] at hget c0 c2 hv' hfx
      have HV := Lib.hid hv'
      have hx4 : x.bs.length ≤ 4096 := (fit_parts hfx).2.2
      obtain ⟨A', c', rfl, -⟩ := hv'
      have hbl : b < wr.heap.size := World.block_lt_of_cell? wr ⟨b, _, none⟩ c0
      have hnb : b ≠ wr.heap.size := by omega
      have hnb' : wr.heap.size ≠ b := by omega
      have hml : ms.length ≤ 4096 := by
        have h1 := congrArg List.length hI.out.1
        rw [List.length_map, List.length_map] at h1
        have h2 := List.length_filter_le (stands q) (l.take k)
        rw [List.length_take] at h2
        omega
      clear hx hfx
      by_cases hs : stands q x = true
      · have hs1 : x.q = q ∧ 0 < x.n := by simpa [stands] using hs
        have g1 : (x.q == q) = true := by simpa using hs1.1
        have g2 : 0 < x.n := hs1.2
        have HS := Lib.hid hs
        clear hs hs1
        go_wp2_with (first | (go_at_call 29; refine calls_gen fun W8 e8 => ?_; have hb8 : Below wr.heap.size wr W8 := (by rw [e8]; exact (by repeat (first | exact Below.refl _ _ | assumption | refine Below.drew ?_ | refine bel_al ?_ _ | refine bel_set ?_ (by omega) _ | refine bel_tr ?_ (by assumption)))); clear e8; refine (own_agg x.bs _ W8 (HV.out.stays bndAt_stays (bel_tr hbr hb8)) (by omega)).mono ?_; rintro e w6 ⟨v6, rfl, hnb6, hb6⟩; have hb56 := bel_tr hb8 hb6; obtain ⟨A6, c6, hv6⟩ : ∃ A c, v6 = .slice A x.bs.length c := (by obtain ⟨A, c, h, -⟩ := hnb6.1; exact ⟨A, c, h⟩); subst hv6) | (at_builtin; refine wpList_app _ rfl (.tmp 36) (.tmp 40) 27 rfl w.heap.size 30 j0 _ 1 24 Tryz.underlying27 hj0 hy0 hy1 hy2 rfl (by decide) u8 ms.length (ms.map (·.2)) rfl (ownsRow_below (hI.out.2.1.grow hb56).row (bel_one _ _)) (some ⟨w6.heap.size, 0, none⟩) 1 1 [.slice A6 x.bs.length c6] rfl (src_new w6 [.slice A6 x.bs.length c6] _ 1 1 rfl (by simp [Value.oneCell'])) (by unfold maxLen; omega) (by omega) (by have h1 := hbr.size; have h2 := hb56.size; simp; omega) ?_; intro v7 w7 hown7 hg7 hloc7))
        have hMA := MW.app (hI.out.2.1.grow hb56) hnb6.1 (fun g hg1 => by
          have h1 := hnb6.2 g hg1
          have h2 := hbr.size
          have h3 := hb8.size
          exact ⟨by omega, h1.2, fun e => by have := (ownsRow_lt hI.out.2.1.row e.symm).2; omega⟩) hown7 hg7 hloc7
        have hb7 : Below w.heap.size w w7 := (bel_al (bel_tr hbr hb56) _).trans (grown_below hg7 (by have h1 := hbr.size; have h2 := hb56.size; simp; omega) (fun g h => (ownsRow_lt hI.out.2.1.row h).1))
        have HMA := Lib.hid hMA
        clear hMA hown7 hg7 hloc7 hnb6
        go_wp2_with fail
        go_roundw
        case rel =>
          refine ⟨k + 1, _, by omega, by go_num, Lib.hid ⟨?_, HMA.out, hb7⟩⟩
          rw [List.map_append, hI.out.1, take_snoc' hget.out, List.filter_append, List.filter_cons_of_pos (by simpa using HS.out)]
          simp
        case measure => simp [intOf]; omega
      · have hsf : stands q x = false := by simpa using hs
        have HS := Lib.hid hsf
        clear hs
        by_cases hq : x.q = q
        · have g1 : (x.q == q) = true := by simpa using hq
          have g2 : ¬ 0 < x.n := by simpa [stands, hq] using hsf
          clear hsf
          go_wp2_with fail
          go_roundw
          case rel =>
            refine ⟨k + 1, ms, by omega, by go_num, Lib.hid ⟨?_, hI.out.2.1.grow (by repeat (first | exact Below.refl _ _ | assumption | refine Below.drew ?_ | refine bel_al ?_ _ | refine bel_set ?_ (by omega) _ | refine bel_tr ?_ (by assumption))), bel_tr hbr (by repeat (first | exact Below.refl _ _ | assumption | refine Below.drew ?_ | refine bel_al ?_ _ | refine bel_set ?_ (by omega) _ | refine bel_tr ?_ (by assumption)))⟩⟩
            rw [hI.out.1, take_snoc' hget.out, List.filter_append, List.filter_cons_of_neg (by simpa using HS.out)]
            simp
          case measure => simp [intOf]; omega
        · have g1 : (x.q == q) = false := by simpa using hq
          clear hsf
          go_wp2_with fail
          go_roundw
          case rel =>
            refine ⟨k + 1, ms, by omega, by go_num, Lib.hid ⟨?_, hI.out.2.1.grow (by repeat (first | exact Below.refl _ _ | assumption | refine Below.drew ?_ | refine bel_al ?_ _ | refine bel_set ?_ (by omega) _ | refine bel_tr ?_ (by assumption))), bel_tr hbr (by repeat (first | exact Below.refl _ _ | assumption | refine Below.drew ?_ | refine bel_al ?_ _ | refine bel_set ?_ (by omega) _ | refine bel_tr ?_ (by assumption)))⟩⟩
            rw [hI.out.1, take_snoc' hget.out, List.filter_append, List.filter_cons_of_neg (by simpa using HS.out)]
            simp
          case measure => simp [intOf]; omega
    · have hk' : ¬ (k : Int) < (l.length : Int) := by omega
      have hke : k = l.length := by omega
      have hI' := hI.out
      rw [hke, List.take_length] at hI'
      have hm := hI'.2.1.is
      rw [hI'.1, HRR.out] at hm
      have HM := Lib.hid hm
      obtain ⟨A7, c7, rfl, -⟩ := hm
      clear hI' hke
      go_wp2_with fail
      go_ret2
      exact ⟨_, rfl, HM.out, hbr⟩
end Go.Proofs.YtlofjcicpkfcdaaGreatDoor
