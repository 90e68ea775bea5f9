/- ref17.Sorted, Sort; ref.Of, Apply. -/
import Derived.Test.YtlofjcicpkfcdaaGreatDoorLrput
namespace Go.Proofs.YtlofjcicpkfcdaaGreatDoor
open Go.RowKit Go.Shelf

theorem put_in (S : List (List Bnd)) (m : List Bnd) (v vm : Value) (w : World) (h : PutIn w v S) (hm : IsBnds w vm m) (hlen : S.length ≤ 1000) : Calls Tryz.prog 69 #[v, .agg #[vm]] w (PutRet w (putM m S)) := by
  rcases h with ⟨rfl, rfl⟩ | ⟨b, o, c, rfl, h⟩
  · exact putNil_any m vm w hm
  · exact put_any S b o c m vm w h hm hlen
def foldM (l : List (List Bnd)) : List (List Bnd) := l.foldl (fun S m => putM m S) []
theorem foldM_take {l : List (List Bnd)} {k : Nat} {x : List Bnd} (h : l[k]? = some x) : foldM (l.take (k + 1)) = putM x (foldM (l.take k)) := by
  unfold foldM; rw [take_snoc' h, List.foldl_append]; rfl
theorem putM_len (m : List Bnd) : ∀ l, (putM m l).length ≤ l.length + 1
  | [] => by simp [putM]
  | x :: l => by
    have := putM_len m l
    simp only [putM]
    split
    · simp; omega
    · split <;> simp
theorem foldM_len (l : List (List Bnd)) : (foldM l).length ≤ l.length := by
  unfold foldM
  have : ∀ S : List (List Bnd), (l.foldl (fun S m => putM m S) S).length ≤ S.length + l.length := by
    induction l with
    | nil => intro S; simp
    | cons x l ih => intro S; have h1 := ih (putM x S); have h2 := putM_len x S; rw [List.foldl_cons, List.length_cons]; omega
  simpa using this []
theorem putIn_form {w : World} {v : Value} {l : List (List Bnd)} (h : PutIn w v l) : ∃ A c, v = .slice A l.length c := sl_form h.is

set_option maxRecDepth 100000 in
set_option maxHeartbeats 4000000 in
theorem rsorted_any (l : List (List Bnd)) (v : Value) (w : World) (hl : IsMats w v l) (hlen : l.length ≤ 900) : Calls Tryz.prog 54 #[v] w fun e W => ∃ v', e = .returned v' ∧ IsMats W v' (sortM l) ∧ Below w.heap.size w W := by
  obtain ⟨A, c, rfl, h1, h2, hat⟩ := hl
  have hn := len_i64 h1 h2
  have HL := Lib.hid hat
  clear hat h1 h2
  obtain ⟨R, hR⟩ : ∃ R, sortM l = R := ⟨_, rfl⟩
  have HR : Hid (foldM l = R) := Lib.hid hR
  rw [hR]
  clear hR
  go_enter Tryz.func54, Tryz.ntmps54
  go_wp2_with fail
  go_loopw [3, 4] (fun ov i wr => ∃ k : Nat, k ≤ l.length ∧ i = .int .i64 k ∧ Hid (PutIn wr ov (foldM (l.take k)) ∧ Below w.heap.size w wr)) (fun _ i _ => l.length - (intOf i).toNat)
  case atStart => exact ⟨0, Nat.zero_le _, rfl, Lib.hid ⟨.inl ⟨rfl, rfl⟩, Below.refl _ _⟩⟩
  case round =>
    obtain ⟨k, hk, rfl, hI⟩ := hrel
    have hbr := hI.out.2
    by_cases hlt : k < l.length
    · have hk' : (k : Int) < (l.length : Int) := by omega
      obtain ⟨b, o, rfl, v', hv', c0⟩ := HL.out k l[k] (List.getElem?_eq_getElem hlt)
      replace c0 := cell_stays hbr c0
      rw [Nat.mul_one] at c0
      have hget := Lib.hid (List.getElem?_eq_getElem hlt)
      obtain ⟨x, hx⟩ : ∃ x, x = l[k] := ⟨_, rfl⟩
      rw [← hx] at hget hv'
      have HV := Lib.hid (hv'.stays bndAt_stays hbr)
      obtain ⟨A', c', rfl, -⟩ := hv'
      clear hx
      have hfl : (foldM (l.take k)).length ≤ 1000 := by have := foldM_len (l.take k); rw [List.length_take] at this; omega
      have HPI := Lib.hid hI.out.1
      have HFL := Lib.hid hfl
      obtain ⟨A3, c3, hu⟩ := putIn_form hI.out.1
      clear hfl hI
      subst hu
      go_wp2_with fail
      refine (put_in (foldM (l.take k)) x _ _ wr HPI.out HV.out HFL.out).mono ?_
      rw [← foldM_take hget.out]
      rintro e w3 ⟨v3, rfl, hp3, hb3⟩
      have HP3 := Lib.hid hp3
      have HB3 := Lib.hid (bel_tr hbr hb3)
      obtain ⟨A4, c4, hu4⟩ := putIn_form hp3
      subst hu4
      clear hp3 hb3
      go_wp2_with fail
      go_roundw
      case rel => exact ⟨k + 1, by omega, by go_num, Lib.hid ⟨HP3.out, HB3.out⟩⟩
      case measure => simp [intOf]; omega
    · have hk' : ¬ (k : Int) < (l.length : Int) := by omega
      have hke : k = l.length := by omega
      have hI1 := hI.out
      rw [hke, List.take_length, HR.out] at hI1
      have HI := Lib.hid hI1
      obtain ⟨A3, c3, hu⟩ := putIn_form hI1.1
      clear hI hI1 hke
      subst hu
      go_wp2_with fail
      go_ret
      exact ⟨_, rfl, HI.out.1.is, HI.out.2⟩

set_option maxRecDepth 100000 in
set_option maxHeartbeats 4000000 in
theorem rsort_any (l : List (List Bnd)) (v : Value) (w : World) (hl : IsMats w v l) (hlen : l.length ≤ 900) : Calls Tryz.prog 31 #[v] w (MatRet w (sortR l)) := by
  have HA := Lib.hid hl
  obtain ⟨A, c, rfl, h1, h2, hat⟩ := hl
  have hn := len_i64 h1 h2
  have HL := Lib.hid hat
  clear hat h1 h2
  obtain ⟨R, hR⟩ : ∃ R, sortR l = R := ⟨_, rfl⟩
  have HR := Lib.hid hR
  rw [hR]
  clear hR
  go_enter Tryz.func31, Tryz.ntmps31
  go_wp2_with fail
  go_loopw [4] (fun i wr => ∃ k : Nat, k ≤ l.length ∧ i = .int .i64 k ∧ Hid (scanE (fun _ m => matErr m) (prevL l k) (l.drop k) = matsErr l ∧ Below w.heap.size w wr)) (fun i _ => l.length - (intOf i).toNat)
  case atStart => exact ⟨0, Nat.zero_le _, rfl, Lib.hid ⟨rfl, Below.refl _ _⟩⟩
  case round =>
    obtain ⟨k, hk, rfl, hI⟩ := hrel
    have hbr := hI.out.2
    by_cases hlt : k < l.length
    · have hk' : (k : Int) < (l.length : Int) := by omega
      obtain ⟨b, o, rfl, v', hv', c0⟩ := HL.out k l[k] (List.getElem?_eq_getElem hlt)
      replace c0 := cell_stays hbr c0
      rw [Nat.mul_one] at c0
      have hget := Lib.hid (List.getElem?_eq_getElem hlt)
      obtain ⟨x, hx⟩ : ∃ x, x = l[k] := ⟨_, rfl⟩
      rw [← hx] at hget hv'
      have HV := Lib.hid (hv'.stays bndAt_stays hbr)
      obtain ⟨A', c', rfl, -⟩ := hv'
      obtain ⟨es, hes⟩ : ∃ e, matErr x = e := ⟨_, rfl⟩
      have HES := Lib.hid hes
      have HBR := Lib.hid hbr
      clear hx hes
      go_wp2_with fail
      refine (rmcheck_any x _ wr HV.out).mono ?_
      rw [HES.out]
      rintro e w4 ⟨rfl, hb4⟩
      have HB4 := Lib.hid (bel_tr HBR.out hb4)
      clear hb4 hbr
      by_cases h0 : es = 0
      · subst h0
        go_wp2_with fail
        go_roundw
        case rel => exact ⟨k + 1, by omega, by go_num, Lib.hid ⟨scan_go hget.out hI.out.1 HES.out, HB4.out⟩⟩
        case measure => simp [intOf]; omega
      · have h0' : (es != 0) = true := by simpa using h0
        have HX : Hid (R = ([], es)) := Lib.hid (by
          have h5 : matsErr l = es := (scan_stop hget.out hI.out.1 HES.out h0).symm
          rw [← HR.out, sortR, h5, if_pos h0])
        clear h0
        go_wp2_with fail
        go_ret2
        rw [HX.out]
        exact ⟨_, rfl, Sl.nil _ _ _ _ _ (Nat.zero_le _), HB4.out⟩
    · have hk' : ¬ (k : Int) < (l.length : Int) := by omega
      have HE0 : Hid (matsErr l = 0) := Lib.hid (scan_end (by omega) hI.out.1).symm
      have HBR := Lib.hid hbr
      clear hI hbr
      go_wp2_with fail
      refine (rsorted_any l _ wr (HA.out.stays matAt_stays HBR.out) hlen).mono ?_
      rintro e w3 ⟨v3, rfl, hv3, hb3⟩
      have HV3 := Lib.hid hv3
      have HB3 := Lib.hid (bel_tr HBR.out hb3)
      have hfl := foldM_len l
      have hs : (sortM l).length ≤ l.length := hfl
      obtain ⟨A3, c3, rfl⟩ := sl_form hv3
      have h4096 : ¬ (4096 : Int) < ((sortM l).length : Int) := by omega
      have HX : Hid (R = (sortM l, 0)) := Lib.hid (by rw [← HR.out, sortR, HE0.out, if_neg (by simp), if_neg (by omega)])
      clear hv3 hb3 hfl
      go_wp2_with fail
      go_ret2
      rw [HX.out]
      exact ⟨_, rfl, HV3.out, HB3.out⟩

set_option maxRecDepth 100000 in
set_option maxHeartbeats 4000000 in
theorem rof_any (q : Int) (l : List (List Bnd)) (v : Value) (w : World) (hl : IsMats w v l) (hlen : l.length ≤ 900) : Calls Tryz.prog 10 #[.int .i64 q, v] w (LedRet w (ofR q l)) := by
  have HL := Lib.hid hl
  obtain ⟨A, c, rfl, -⟩ := hl
  obtain ⟨j0, hj0, hy0, hy1, hy2⟩ := info_parts info_ent
  unfold ofR
  obtain ⟨qb, hqb⟩ : ∃ b, qOk q = b := ⟨_, rfl⟩
  have HQ := Lib.hid hqb
  rw [hqb]
  clear hqb
  cases qb with
  | false =>
    go_enter Tryz.func10, Tryz.ntmps10
    go_wp2_with (go_at_call 30; refine (rquery_any _ _).mono ?_; rw [HQ.out]; rintro e w' ⟨rfl, rfl⟩)
    go_ret2
    exact ⟨_, rfl, Sl.nil _ _ _ _ _ (Nat.zero_le _), Below.refl _ _⟩
  | true =>
  rw [if_neg (by simp)]
  have hok := @sortR_ok l
  obtain ⟨⟨S, e1⟩, hS⟩ : ∃ r, sortR l = r := ⟨_, rfl⟩
  have HSS := Lib.hid hS
  rw [hS] at hok ⊢
  simp only at hok ⊢
  clear hS
  by_cases h0 : e1 = 0
  case neg =>
    rw [if_pos h0]
    have h0' : (e1 != 0) = true := by simpa using h0
    clear hok
    go_enter Tryz.func10, Tryz.ntmps10
    go_wp2_with (go_at_call 30; refine (rquery_any _ _).mono ?_; rw [HQ.out]; rintro e w' ⟨rfl, rfl⟩)
    refine (rsort_any l _ w HL.out hlen).mono ?_
    rw [HSS.out]
    rintro e w2 ⟨v2, rfl, hv2, hb2⟩
    obtain ⟨A2, c2, rfl⟩ := sl_len hv2 rfl
    clear hv2
    go_wp2_with fail
    go_ret2
    exact ⟨_, rfl, Sl.nil _ _ _ _ _ (Nat.zero_le _), hb2⟩
  subst h0
  rw [if_neg (by simp)]
  obtain ⟨k1, k2, k3⟩ := hok rfl
  have hSl : S.length ≤ 4096 := by rw [k1]; exact k2
  clear hok k1 k2 k3
  go_enter Tryz.func10, Tryz.ntmps10
  go_wp2_with (go_at_call 30; refine (rquery_any _ _).mono ?_; rw [HQ.out]; rintro e w' ⟨rfl, rfl⟩)
  refine (rsort_any l _ w HL.out hlen).mono ?_
  rw [HSS.out]
  rintro e w2 ⟨v2, rfl, hv2, hb2⟩
  simp only at hv2
  obtain ⟨A2, c2, rfl, h1, h2, hat⟩ := hv2
  have hn := len_i64 h1 h2
  have HAT := Lib.hid hat
  have HB2 := Lib.hid hb2
  clear h1 h2 hat hb2
  go_wp2_with fail
  go_loopw [8, 9] (fun av i wr => ∃ (k : Nat) (xs : List Value), k ≤ S.length ∧ i = .int .i64 k ∧ Hid (wr.ownsRow w2.heap.size 45 3 av k xs ∧ Means EntAt 3 w2 xs (ofE q (S.take k)) ∧ Below w2.heap.size w2 wr)) (fun _ i _ => S.length - (intOf i).toNat)
  case atStart => exact ⟨0, [], Nat.zero_le _, rfl, Lib.hid ⟨⟨by simp, .inl ⟨rfl, rfl⟩⟩, Means.nil, Below.refl _ _⟩⟩
  case round =>
    obtain ⟨k, xs, hk, rfl, hI⟩ := hrel
    have hbr := hI.out.2.2
    by_cases hlt : k < S.length
    · have hk' : (k : Int) < (S.length : Int) := by omega
      obtain ⟨b, o, rfl, v', hv', c0⟩ := HAT.out k S[k] (List.getElem?_eq_getElem hlt)
      replace c0 := cell_stays hbr c0
      rw [Nat.mul_one] at c0
      have hget := Lib.hid (List.getElem?_eq_getElem hlt)
      obtain ⟨x, hx⟩ : ∃ x, x = S[k] := ⟨_, rfl⟩
      rw [← hx] at hget hv'
      have HV := Lib.hid hv'
      obtain ⟨A', c', rfl, -⟩ := hv'
      have hsz := hbr.size
      clear hx
      go_wp2_with (at_builtin; refine wpList_app _ rfl (.tmp 27) (.tmp 34) 22 rfl w2.heap.size 45 j0 _ 3 40 Tryz.underlying22 hj0 hy0 hy1 hy2 rfl (by decide) u8 k xs rfl (ownsRow_below hI.out.1 (bel_one _ _)) (some ⟨wr.heap.size, 0, none⟩) 1 1 [.int .i64 q, .slice A' x.length c', .int .i64 1] rfl (src_new' _ [.int .i64 q, .slice A' x.length c', .int .i64 1] _ 1 3 _ rfl rfl (by simp [Value.oneCell'])) (by unfold maxLen; omega) (by omega) (by simp; omega) ?_; intro v7 w7 hown7 hg7 hloc7)
      have hb7 : Below w2.heap.size w2 w7 := (bel_al hbr _).trans (grown_below hg7 (by simp; omega) (fun g h => (ownsRow_lt hI.out.1 h).1))
      have HO7 := Lib.hid hown7
      clear hown7 hg7 hloc7
      go_wp2_with fail
      go_roundw
      case rel =>
        refine ⟨k + 1, xs ++ [.int .i64 q, .slice A' x.length c', .int .i64 1], by omega, by go_num, Lib.hid ⟨HO7.out, ?_, hb7⟩⟩
        have h9 : ofE q (S.take (k + 1)) = ofE q (S.take k) ++ [⟨q, x, 1⟩] := by rw [take_snoc' hget.out]; simp [ofE]
        rw [h9]
        exact hI.out.2.1.app (ent_one_mean HV.out)
      case measure => simp [intOf]; omega
    · have hk' : ¬ (k : Int) < (S.length : Int) := by omega
      have hke : k = S.length := by omega
      have hI1 := hI.out
      rw [hke, List.take_length] at hI1
      have hm := sl_of_means (l := ofE q S) hI1.2.1 hbr (by rw [show (ofE q S).length = S.length by simp [ofE]]; exact hI1.1)
      have HM := Lib.hid hm
      obtain ⟨A7, c7, rfl, -⟩ := hm
      clear hI hI1 hke
      go_wp2_with fail
      go_ret2
      exact ⟨_, rfl, HM.out, bel_tr HB2.out hbr⟩
end Go.Proofs.YtlofjcicpkfcdaaGreatDoor
