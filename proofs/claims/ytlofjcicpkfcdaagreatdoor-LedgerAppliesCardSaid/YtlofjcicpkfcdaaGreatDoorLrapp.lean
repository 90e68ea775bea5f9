/- ref.Apply. -/
import Derived.Test.YtlofjcicpkfcdaaGreatDoorLrsort
import Derived.Test.YtlofjcicpkfcdaaGreatDoorLstep
namespace Go.Proofs.YtlofjcicpkfcdaaGreatDoor
open Go.RowKit Go.Shelf

theorem step_call2 {P : Program} (w : World) {ops : Array Oper} {o : Oper} {a : Act} {K : Act → World → Prop} {Q : Exit → Act → World → Prop} {E : Prop} (hgd : o.guard = none) (f : FuncId) (x y : Operand) (t s : TypeId)
    (ho : o.op = .call { callee := .value (.func f), args := #[x, y], argTypes := #[t, s] }) (u v : Value) (hx : a.eval x = u) (hy : a.eval y = v) (hf : ∀ args w, (callFunc f args).run P w = .ok (.enter f args) w)
    (h : Calls P f #[u, v] w fun e w' => ∃ r, e = .returned r ∧ K (a.put o.dst r) w') :
    if Region.wanted o (yielded ops a.tmps) = true then Oper.wp P o a w K Q else E := by
  have hw : Region.wanted o (yielded ops a.tmps) = true := by simp [Region.wanted, hgd]
  rw [if_pos hw]
  unfold Oper.wp
  have hfn : a.eval (.func f) = .func (.func f) #[] #[] := rfl
  have hr : (execOp a.eval o).run P w = Result.ok (Next.enter f #[u, v]) w := by
    unfold execOp
    simp [ho, resolve, invoke, hx, hy, hf, hfn, Deferred.ofValue]
  rw [hr]
  exact h.mono fun e w' ⟨v, he, hK⟩ => by subst he; exact hK
theorem enter_radd (args : Array Value) (W : World) : (callFunc 25 args).run Tryz.prog W = .ok (.enter 25 args) W := enters_of Tryz.func25 (by kernel_rfl) rfl args W
theorem sumE_snoc' (a b : List Ety) (x : Ety) : sumE a (b ++ [x]) = addE (sumE a b) x := by unfold sumE; rw [List.foldl_append]; rfl

def stA (l : List Ety) (cs : List Chg) (k : Nat) : List Ety := sumE l ((cs.take k).map ety)
theorem stA_zero (l : List Ety) (cs : List Chg) : stA l cs 0 = l := by unfold stA; simp [sumE]
theorem stA_succ {l : List Ety} {cs : List Chg} {k : Nat} {x : Chg} (h : cs[k]? = some x) : stA l cs (k + 1) = addE (stA l cs k) (ety x) := by
  unfold stA
  rw [take_snoc' h, List.map_append]
  exact sumE_snoc' _ _ _
theorem stA_end (l : List Ety) (cs : List Chg) : stA l cs cs.length = sumE l (cs.map ety) := by unfold stA; rw [List.take_length]

set_option maxRecDepth 100000 in
set_option maxHeartbeats 8000000 in
theorem rapply_any (l : List Ety) (cs : List Chg) (va vc : Value) (w : World) (ha : IsEnts w va l) (hc : IsChgs w vc cs) (hll : l.length ≤ 100) (hcl : cs.length ≤ 100) : Calls Tryz.prog 8 #[va, vc] w (LedRet w (applyR l cs)) := by
  have HA := Lib.hid ha
  obtain ⟨A, c, rfl, -⟩ := ha
  obtain ⟨B, d, rfl, h1, h2, hat⟩ := hc
  have hn := len_i64 h1 h2
  have HC := Lib.hid hat
  clear hat h1 h2
  unfold applyR
  obtain ⟨e1, he1⟩ : ∃ e, ledErr l = e := ⟨_, rfl⟩
  have HE1 := Lib.hid he1
  rw [he1]
  clear he1
  by_cases h0 : e1 = 0
  case neg =>
    rw [if_pos h0]
    have h0' : (e1 != 0) = true := by simpa using h0
    go_enter Tryz.func8, Tryz.ntmps8
    go_wp2_with fail
    refine (rlcheck_any l _ w HA.out).mono ?_
    rw [HE1.out]
    rintro e w2 ⟨rfl, hb2⟩
    go_wp2_with fail
    go_ret2
    exact ⟨_, rfl, Sl.nil _ _ _ _ _ (Nat.zero_le _), hb2⟩
  subst h0
  rw [if_neg (by simp), if_neg (by omega)]
  have hm' : ¬ (4096 : Int) < (cs.length : Int) := by omega
  obtain ⟨R, hR⟩ : ∃ R : List Ety × Int, (if chgsE cs ≠ 0 then ([], chgsE cs) else limR (sumE [] (l ++ cs.map ety))) = R := ⟨_, rfl⟩
  have HR := Lib.hid hR
  rw [hR]
  clear hR
  have HSA : Hid (sumA l ≤ 1000000000000000 - 200) := Lib.hid (by
    have h3 := (led_ok HE1.out).2.1
    have := sumA_le (l := l) (B := 1099511627776) fun x hx => by have := (h3 x hx).2; unfold absI; split <;> omega
    omega)
  have HSL := Lib.hid (sum_led (led_ok HE1.out).1)
  go_enter Tryz.func8, Tryz.ntmps8
  go_wp2_with fail
  refine (rlcheck_any l _ w HA.out).mono ?_
  rw [HE1.out]
  rintro e w2 ⟨rfl, hb2⟩
  have HB2 := Lib.hid hb2
  clear hb2
  go_wp2_with fail
  go_loopw [7] (fun i wr => ∃ k : Nat, k ≤ cs.length ∧ i = .int .i64 k ∧ Hid (scanE (fun _ c => chgE c) (prevL cs k) (cs.drop k) = chgsE cs ∧ (∀ c ∈ cs.take k, chgE c = 0) ∧ Below w.heap.size w wr)) (fun i _ => cs.length - (intOf i).toNat)
  case atStart => exact ⟨0, Nat.zero_le _, rfl, Lib.hid ⟨rfl, by simp, HB2.out⟩⟩
  case round =>
    obtain ⟨k, hk, rfl, hI⟩ := hrel
    have hbr := hI.out.2.2
    by_cases hlt : k < cs.length
    · have hk' : (k : Int) < (cs.length : Int) := by omega
      obtain ⟨b, o, rfl, v', hv', c0, c1, c2⟩ := HC.out k cs[k] (List.getElem?_eq_getElem hlt)
      replace c0 := cell_stays hbr c0
      replace c1 := cell_stays hbr c1
      replace c2 := cell_stays hbr c2
      have hget := Lib.hid (List.getElem?_eq_getElem hlt)
      obtain ⟨x, hx⟩ : ∃ x, x = cs[k] := ⟨_, rfl⟩
      rw [← hx] at hget c0 c1 hv'
      have HV := Lib.hid (hv'.stays bndAt_stays hbr)
      obtain ⟨A', c', rfl, -⟩ := hv'
      obtain ⟨es, hes⟩ : ∃ e, chgE x = e := ⟨_, rfl⟩
      have HES := Lib.hid hes
      have HBR := Lib.hid hbr
      have hrc := rchg_any x _ wr HV.out
      rw [hes] at hrc
      unfold chgV at hrc
      have HRC := Lib.hid hrc
      clear hx hes hrc
      go_wp2_with fail
      refine HRC.out.mono ?_
      rintro e w4 ⟨rfl, hb4⟩
      have HB4 := Lib.hid (bel_tr HBR.out hb4)
      clear hb4 hbr
      by_cases h0 : es = 0
      · subst h0
        go_wp2_with fail
        go_roundw
        case rel =>
          refine ⟨k + 1, by omega, by go_num, Lib.hid ⟨scan_go hget.out hI.out.1 HES.out, ?_, HB4.out⟩⟩
          rw [take_snoc' hget.out]
          intro y hy
          rcases List.mem_append.1 hy with hy | hy
          · exact hI.out.2.1 y hy
          · simp at hy; subst hy; exact HES.out
        case measure => simp [intOf]; omega
      · have h0' : (es != 0) = true := by simpa using h0
        have HX : Hid (R = ([], es)) := Lib.hid (by
          have h5 : chgsE cs = es := (scan_stop hget.out hI.out.1 HES.out h0).symm
          rw [← HR.out, h5, if_pos h0])
        clear h0
        go_wp2_with fail
        go_ret2
        rw [HX.out]
        exact ⟨_, rfl, Sl.nil _ _ _ _ _ (Nat.zero_le _), HB4.out⟩
    · have hk' : ¬ (k : Int) < (cs.length : Int) := by omega
      have hI1 := hI.out
      rw [show k = cs.length by omega, List.take_length] at hI1
      have HCE := Lib.hid hI1.2.1
      have HX : Hid (R = limR (sumE l (cs.map ety))) := Lib.hid (by
        have h5 : chgsE cs = 0 := (scan_end (Nat.le_refl _) hI1.1).symm
        rw [← HR.out, h5, if_neg (by simp), sumE_app, HSL.out])
      have HBR := Lib.hid hbr
      clear hI hI1 hbr
      obtain ⟨wa, rfl⟩ : ∃ wa : World, wa = wr := ⟨_, rfl⟩
      go_wp2_with fail
      go_loopw [0, 9] (fun sv i wr => ∃ (k : Nat) (A' : Option Addr) (c' : Nat), k ≤ cs.length ∧ i = .int .i64 k ∧ sv = .slice A' (stA l cs k).length c' ∧ Hid (IsEnts wr sv (stA l cs k) ∧ Below w.heap.size w wr)) (fun _ i _ => cs.length - (intOf i).toNat)
      case atStart => exact ⟨0, A, c, Nat.zero_le _, rfl, by rw [stA_zero], Lib.hid ⟨by rw [stA_zero]; exact HA.out.stays entAt_stays HBR.out, HBR.out⟩⟩
      case round =>
        obtain ⟨k, A', c', hk, rfl, rfl, hI⟩ := hrel
        have hbr := hI.out.2
        by_cases hlt : k < cs.length
        · have hk' : (k : Int) < (cs.length : Int) := by omega
          obtain ⟨b, o, rfl, v', hv', c0, c1, c2⟩ := HC.out k cs[k] (List.getElem?_eq_getElem hlt)
          replace c0 := cell_stays hbr c0
          replace c1 := cell_stays hbr c1
          replace c2 := cell_stays hbr c2
          have hget := Lib.hid (List.getElem?_eq_getElem hlt)
          have hce := HCE.out cs[k] (List.getElem_mem hlt)
          obtain ⟨x, hx⟩ : ∃ x, x = cs[k] := ⟨_, rfl⟩
          rw [← hx] at hget c0 c1 hv' hce
          have HV := Lib.hid (hv'.stays bndAt_stays hbr)
          obtain ⟨A2, c3, rfl, -⟩ := hv'
          have HSG : Hid (-1000000000000000 ≤ x.sg ∧ x.sg ≤ 1000000000000000) := Lib.hid (by have := (chgE_fit hce).2; unfold ety at this; simp only at this; omega)
          have HBD : Hid (∀ e ∈ stA l cs k, -1000000000000000 ≤ e.n ∧ e.n ≤ 1000000000000000) := Lib.hid fun e he => by
            have h1 := sumA_one he
            unfold stA at h1
            have h2 := sumA_sumE l ((cs.take k).map ety)
            have h3 := sumA_ety (cs := cs.take k) fun c hc => HCE.out c (List.mem_of_mem_take hc)
            rw [List.length_take] at h3
            have h4 := absI_ge e.n
            have := HSA.out
            omega
          have HL2 : Hid ((stA l cs k).length ≤ 1000000) := Lib.hid (by
            unfold stA
            have h1 := sumE_len l ((cs.take k).map ety)
            rw [List.length_map, List.length_take] at h1
            omega)
          have HI := Lib.hid hI.out
          clear hx hce hI
          go_wp2_with fail
          go_region_law (refine step_call2 _ (by rfl) 25 (.tmp 38) (.tmp 54) 22 45 (by rfl) (.slice A' (stA l cs k).length c') (.agg #[.int .i64 x.q, .slice A2 x.bs.length c3, .int .i64 x.sg]) (by rfl) (by rfl) enter_radd ?_; refine calls_gen fun W9 e9 => ?_; have hb9 : Below wr.heap.size wr W9 := (by rw [e9]; exact (by repeat (first | exact Below.refl _ _ | assumption | refine Below.drew ?_ | refine bel_al ?_ _ | refine bel_set ?_ (by omega) _ | refine bel_tr ?_ (by assumption)))); clear e9; refine (radd_any (stA l cs k) ⟨x.q, x.bs, x.sg⟩ _ _ W9 (HI.out.1.stays entAt_stays hb9) (HV.out.stays bndAt_stays hb9) HL2.out HBD.out HSG.out).mono ?_; rintro e w3 ⟨v3, rfl, hv3, hb3⟩; refine ⟨_, rfl, ?_⟩)
          all_goals
            have hvv : IsEnts w3 v3 (stA l cs (k + 1)) := by
              rw [stA_succ hget.out]
              exact hv3
            have H3 := Lib.hid hvv
            obtain ⟨A5, c5, rfl⟩ := sl_form hvv
            have HB3 := Lib.hid (bel_tr (bel_tr hbr hb9) hb3)
            clear hv3 hvv hb3 hb9
            go_wp2_with fail
            go_roundw
            case rel => exact ⟨k + 1, A5, c5, by omega, by go_num, rfl, Lib.hid ⟨H3.out, HB3.out⟩⟩
            case measure => simp [intOf]; omega
        · have hk' : ¬ (k : Int) < (cs.length : Int) := by omega
          have hke : k = cs.length := by omega
          subst hke
          have hI1 := hI.out
          have HEQ := Lib.hid (stA_end l cs)
          have HI := Lib.hid hI1
          clear hI hI1
          go_wp2_with fail
          refine (rlimited_any (stA l cs cs.length) _ wr HI.out.1).mono ?_
          rintro e w4 ⟨v4, rfl, hv4, hb4⟩
          have HV4 := Lib.hid hv4
          obtain ⟨A4, c4, rfl, -⟩ := hv4
          go_wp2_with fail
          go_ret2
          rw [HX.out, ← HEQ.out]
          exact ⟨_, rfl, HV4.out, bel_tr HI.out.2 hb4⟩
end Go.Proofs.YtlofjcicpkfcdaaGreatDoor
