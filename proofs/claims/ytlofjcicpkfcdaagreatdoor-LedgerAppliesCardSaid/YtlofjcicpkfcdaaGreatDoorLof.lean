/- ledger.Of. -/
import Derived.Test.YtlofjcicpkfcdaaGreatDoorLmsort
namespace Go.Proofs.YtlofjcicpkfcdaaGreatDoor
open Go.RowKit Go.Shelf

/-- a row of entries of the call's own, each with its bindings elsewhere -/
structure EW (B : Nat) (wr : World) (av : Value) (ms : List (Ety × Value)) : Prop where
  row : wr.ownsRow B 45 3 av ms.length (cellsE ms)
  bnds : ∀ e ∈ ms, IsBnds wr e.2 e.1.bs ∧ ∀ g, e.2.ownBlock = some g → B ≤ g ∧ g < wr.heap.size ∧ some g ≠ av.ownBlock
theorem EW.nil (B : Nat) (w : World) : EW B w (.slice none 0 0) [] := ⟨⟨by simp [cellsE], .inl ⟨rfl, rfl⟩⟩, by simp⟩
theorem EW.grow {B : Nat} {wr w1 : World} {av : Value} {ms : List (Ety × Value)} (h : EW B wr av ms) (hb : Below wr.heap.size wr w1) : EW B w1 av ms :=
  ⟨ownsRow_below h.row hb, fun e he => ⟨(h.bnds e he).1.stays bndAt_stays hb, fun g hg => by have := (h.bnds e he).2 g hg; exact ⟨this.1, Nat.lt_of_lt_of_le this.2.1 hb.size, this.2.2⟩⟩⟩
theorem EW.app {B : Nat} {w6 w7 : World} {av v7 u : Value} {ms : List (Ety × Value)} {x : Ety} {o : Obj} (h : EW B w6 av ms) (hu : IsBnds w6 u x.bs) (hub : ∀ g, u.ownBlock = some g → B ≤ g ∧ g < w6.heap.size ∧ some g ≠ av.ownBlock)
    (hown : w7.ownsRow B 45 3 v7 (ms.length + 1) (cellsE ms ++ [.int .i64 x.q, u, .int .i64 x.n])) (hg : (w6.alloc o).grownBy w7 av.ownBlock) (hloc : v7.ownBlock = av.ownBlock ∨ v7.ownBlock = some (w6.alloc o).heap.size) :
    EW B w7 v7 (ms ++ [(x, u)]) := by
  have hkeep : ∀ g, g < w6.heap.size → some g ≠ av.ownBlock → w7.heap[g]? = w6.heap[g]? := fun g h1 h2 => (hg.block g (by simp; omega) h2).trans (Below.heap_alloc w6 o g h1)
  have hsz : w6.heap.size < w7.heap.size := Nat.lt_of_lt_of_le (by simp) hg.size
  refine ⟨by rw [cellsE_app, List.length_append]; exact hown, ?_⟩
  intro e he
  have h0 : IsBnds w6 e.2 e.1.bs ∧ ∀ g, e.2.ownBlock = some g → B ≤ g ∧ g < w6.heap.size ∧ some g ≠ av.ownBlock := by
    rcases List.mem_append.1 he with he | he
    · exact h.bnds e he
    · simp at he; subst he; exact ⟨hu, hub⟩
  refine ⟨sl_kept h0.1 fun g hg1 => hkeep g (h0.2 g hg1).2.1 (h0.2 g hg1).2.2, fun g hg1 => ?_⟩
  have h1 := h0.2 g hg1
  refine ⟨h1.1, by omega, ?_⟩
  rcases hloc with hl | hl
  · rw [hl]; exact h1.2.2
  · rw [hl]; simp; omega
theorem EW.is {B : Nat} {wr : World} {av : Value} {ms : List (Ety × Value)} (h : EW B wr av ms) : IsEnts wr av (ms.map (·.1)) := by
  have h1 := cellsE_one (l := ms) fun e he => sl_oneCell (h.bnds e he).1
  obtain ⟨A, c, rfl, h2, h3, h4⟩ := ownsRow_src h.row h1
  refine ⟨A, c, by rw [List.length_map], by rw [List.length_map]; exact h2, h3, fun k x hk => ?_⟩
  rw [List.getElem?_map] at hk
  obtain ⟨e, he, rfl⟩ := Option.map_eq_some_iff.1 hk
  have hkl := (List.getElem?_eq_some_iff.1 he).1
  obtain ⟨b, o, hA, hcs⟩ := h4.2.2 (by omega)
  have hk3 := cellsE_at he []
  rw [List.append_nil] at hk3
  obtain ⟨k0, k1, k2⟩ := hk3
  exact ⟨b, o, hA, e.2, (h.bnds e (List.mem_of_getElem? he)).1, hcs _ _ k0, hcs _ _ k1, hcs _ _ k2⟩

def ofE (q : Int) (S : List (List Bnd)) : List Ety := S.map fun m => ⟨q, m, 1⟩
def ofR (q : Int) (l : List (List Bnd)) : List Ety × Int := if qOk q = false then ([], 2) else if (sortR l).2 ≠ 0 then ([], (sortR l).2) else (ofE q (sortR l).1, 0)
theorem sortR_ok {l : List (List Bnd)} (h : (sortR l).2 = 0) : (sortR l).1 = sortM l ∧ (sortM l).length ≤ 4096 ∧ matsErr l = 0 := by
  unfold sortR at *
  by_cases h1 : matsErr l = 0
  · rw [if_neg (by simp [h1])] at *
    by_cases h2 : 4096 < (sortM l).length
    · rw [if_pos h2] at h; exact absurd h (by decide)
    · rw [if_neg h2]; exact ⟨rfl, by omega, h1⟩
  · rw [if_pos h1] at h; exact absurd h h1
theorem mats_ok {l : List (List Bnd)} {p : Option (List Bnd)} (h : scanE (fun _ m => matErr m) p l = 0) : ∀ m ∈ l, matErr m = 0 := by
  induction l generalizing p with
  | nil => simp
  | cons x l ih =>
    simp only [scanE] at h
    by_cases h0 : matErr x = 0
    · rw [if_pos h0] at h
      intro c hc
      rcases List.mem_cons.1 hc with rfl | hc
      · exact h0
      · exact ih h c hc
    · rw [if_neg h0] at h; exact absurd h h0

set_option maxRecDepth 100000 in
set_option maxHeartbeats 4000000 in
theorem of_any (q : Int) (l : List (List Bnd)) (v : Value) (w : World) (hl : IsMats w v l) (hlen : l.length ≤ 1000) : Calls Tryz.prog 9 #[.int .i64 q, v] w (LedRet w (ofR q l)) := by
  have HL := Lib.hid hl
  obtain ⟨A, c, rfl, -⟩ := hl
  obtain ⟨j0, hj0, hy0, hy1, hy2⟩ := info_parts info_ent
  unfold ofR
  obtain ⟨qb, hqb⟩ : ∃ b, qOk q = b := ⟨_, rfl⟩
  have HQ := Lib.hid hqb
  rw [hqb]
  clear hqb
  cases qb with
  | false =>
    go_enter Tryz.func9, Tryz.ntmps9
    go_wp2_with (go_at_call 27; refine (queryErr_any _ _).mono ?_; rw [HQ.out]; rintro e w' ⟨rfl, rfl⟩)
    go_ret2
    exact ⟨_, rfl, Sl.nil _ _ _ _ _ (Nat.zero_le _), Below.refl _ _⟩
  | true =>
  rw [if_neg (by simp)]
  have hok := @sortR_ok l
  obtain ⟨⟨S, e1⟩, hS⟩ : ∃ r, sortR l = r := ⟨_, rfl⟩
  have HSS := Lib.hid hS
  rw [hS] at hok ⊢
  simp only at hok ⊢
  clear hS
  by_cases h0 : e1 = 0
  case neg =>
    rw [if_pos h0]
    have h0' : (e1 != 0) = true := by simpa using h0
    clear hok
    go_enter Tryz.func9, Tryz.ntmps9
    go_wp2_with (go_at_call 27; refine (queryErr_any _ _).mono ?_; rw [HQ.out]; rintro e w' ⟨rfl, rfl⟩)
    refine (msort_any l _ w HL.out hlen).mono ?_
    rw [HSS.out]
    rintro e w2 ⟨v2, rfl, hv2, hb2⟩
    obtain ⟨A2, c2, rfl⟩ := sl_len hv2 rfl
    clear hv2
    go_wp2_with fail
    go_ret2
    exact ⟨_, rfl, Sl.nil _ _ _ _ _ (Nat.zero_le _), hb2⟩
  subst h0
  rw [if_neg (by simp)]
  obtain ⟨k1, k2, k3⟩ := hok rfl
  have hSl : S.length ≤ 4096 := by rw [k1]; exact k2
  have HSM : Hid (∀ m ∈ S, m.length ≤ 4096) := Lib.hid fun m hm => by
    rw [k1] at hm
    exact mat_len (mats_ok k3 m (((sortM_ok l).2 m).1 hm))
  clear hok k1 k2 k3
  go_enter Tryz.func9, Tryz.ntmps9
  go_wp2_with (go_at_call 27; refine (queryErr_any _ _).mono ?_; rw [HQ.out]; rintro e w' ⟨rfl, rfl⟩)
  refine (msort_any l _ w HL.out hlen).mono ?_
  rw [HSS.out]
  rintro e w2 ⟨v2, rfl, hv2, hb2⟩
  simp only at hv2
  obtain ⟨A2, c2, rfl, h1, h2, hat⟩ := hv2
  have hn := len_i64 h1 h2
  have HAT := Lib.hid hat
  have HB2 := Lib.hid hb2
  clear h1 h2 hat hb2
  go_wp2_with fail
  go_loopw [9, 27] (fun av i wr => ∃ (k : Nat) (ms : List (Ety × Value)), k ≤ S.length ∧ i = .int .i64 k ∧ ms.length = k ∧ Hid (ms.map (·.1) = ofE q (S.take k) ∧ EW w2.heap.size wr av ms ∧ Below w2.heap.size w2 wr)) (fun _ i _ => S.length - (intOf i).toNat)
  case atStart => exact ⟨0, [], Nat.zero_le _, rfl, rfl, Lib.hid ⟨rfl, EW.nil _ _, Below.refl _ _⟩⟩
  case round =>
    obtain ⟨k, ms, hk, rfl, hml, hI⟩ := hrel
    have hbr := hI.out.2.2
    have HML := Lib.hid hml
    clear hml
    by_cases hlt : k < S.length
    · have hk' : (k : Int) < (S.length : Int) := by omega
      obtain ⟨b, o, rfl, v', hv', c0⟩ := HAT.out k S[k] (List.getElem?_eq_getElem hlt)
      replace c0 := cell_stays hbr c0
      rw [Nat.mul_one] at c0
      have hget := Lib.hid (List.getElem?_eq_getElem hlt)
      have hxl := HSM.out S[k] (List.getElem_mem hlt)
      obtain ⟨x, hx⟩ : ∃ x, x = S[k] := ⟨_, rfl⟩
      rw [← hx] at hget hv' hxl
      have HV := Lib.hid (hv'.stays bndAt_stays hbr)
      obtain ⟨A', c', rfl, -⟩ := hv'
      have hbl : b < wr.heap.size := World.block_lt_of_cell? wr ⟨b, _, none⟩ c0
      have hnb : b ≠ wr.heap.size := by omega
      have hnb' : wr.heap.size ≠ b := by omega
      clear hx
      go_wp2_with fail
      refine calls_gen fun W8 e8 => ?_
      have hb8 : Below wr.heap.size wr W8 := by rw [e8]; exact (by repeat (first | exact Below.refl _ _ | assumption | refine Below.drew ?_ | refine bel_al ?_ _ | refine bel_set ?_ (by omega) _ | refine bel_tr ?_ (by assumption)))
      clear e8
      refine (own_agg x _ W8 (HV.out.stays bndAt_stays hb8) (by omega)).mono ?_
      rintro e w6 ⟨v6, rfl, hnb6, hb6⟩
      have HN6 := Lib.hid hnb6
      obtain ⟨A6, c6, hv6⟩ := sl_form hnb6.1
      subst hv6
      have HB6 := Lib.hid (bel_tr hb8 hb6)
      have HMW := Lib.hid ((hI.out.2.1.grow hb8).grow hb6)
      have HSZ := Lib.hid hb8.size
      have hsz6 := HB6.out.size
      have hszr := hbr.size
      clear hnb6 hb6 hb8 c0 hnb hnb' hbl
      go_wp2_with (at_builtin; refine wpList_app _ rfl (.tmp 31) (.tmp 36) 22 rfl w2.heap.size 45 j0 _ 3 40 Tryz.underlying22 hj0 hy0 hy1 hy2 rfl (by decide) u9 ms.length (cellsE ms) rfl (ownsRow_below HMW.out.row (bel_one _ _)) (some ⟨w6.heap.size, 0, none⟩) 1 1 [.int .i64 q, .slice A6 x.length c6, .int .i64 1] rfl (src_new' _ [.int .i64 q, .slice A6 x.length c6, .int .i64 1] _ 1 3 _ rfl rfl (by simp [Value.oneCell'])) (by have := HML.out; unfold maxLen; omega) (by have := HML.out; omega) (by simp; omega) ?_; intro v7 w7 hown7 hg7 hloc7)
      have hMA := EW.app (x := ⟨q, x, 1⟩) HMW.out HN6.out.1 (fun g hg1 => by
        have h1 := HN6.out.2 g hg1
        have h3 := HSZ.out
        exact ⟨by omega, h1.2, fun e => by have := (ownsRow_lt hI.out.2.1.row e.symm).2; omega⟩) hown7 hg7 hloc7
      have hb7 : Below w2.heap.size w2 w7 := (bel_al (bel_tr hbr HB6.out) _).trans (grown_below hg7 (by simp; omega) (fun g h => (ownsRow_lt hI.out.2.1.row h).1))
      have HMA := Lib.hid hMA
      clear hMA hown7 hg7 hloc7
      go_wp2_with fail
      go_roundw
      case rel =>
        refine ⟨k + 1, _, by omega, by go_num, ?_, Lib.hid ⟨?_, HMA.out, hb7⟩⟩
        · rw [List.length_append, HML.out]; rfl
        · rw [List.map_append, hI.out.1, take_snoc' hget.out]; simp [ofE]
      case measure => simp [intOf]; omega
    · have hk' : ¬ (k : Int) < (S.length : Int) := by omega
      have hke : k = S.length := by omega
      have hI1 := hI.out
      rw [hke, List.take_length] at hI1
      have hm := hI1.2.1.is
      rw [hI1.1] at hm
      have HM := Lib.hid hm
      obtain ⟨A7, c7, rfl, -⟩ := hm
      clear hI hI1 hke
      go_wp2_with fail
      go_ret2
      exact ⟨_, rfl, HM.out, bel_tr HB2.out hbr⟩
end Go.Proofs.YtlofjcicpkfcdaaGreatDoor
