/- The law LedgerStands: the matches that stand in the ledger of some matches are these, each once, and no others of other queries; retracting one of them leaves the others. No condition beyond the row's own. -/
import Derived.Test.YtlofjcicpkfcdaaDoorTie
import Derived.Test.YtlofjcicpkfcdaaDoorCards
import Derived.Test.YtlofjcicpkfcdaaDoorLopen
import Derived.Test.YtlofjcicpkfcdaaDoorLawake
import Derived.Test.YtlofjcicpkfcdaaDoorLlaws
import Derived.Test.YtlofjcicpkfcdaaDoorLof
import Derived.Test.YtlofjcicpkfcdaaDoorLref
namespace Go.Proofs.YtlofjcicpkfcdaaDoor
open Go.ChangeShapes Go.WideShapes Go.ChangeAt Go.RowKit Go.Deep Go.Shelf

def badM (m : List Bnd) : Bool := decide (6 < (m.length : Int)) || (matErr m != 0)
theorem cnt_ofE (K q : Int) (bs : List Bnd) (S : List (List Bnd)) (hS : S.Pairwise (fun a b => bsC a b < 0)) : cnt q bs (ofE K S) = if K = q ∧ bs ∈ S then 1 else 0 := by
  induction S with
  | nil => simp [ofE, cnt]
  | cons x S ih =>
    obtain ⟨h1, h2⟩ := List.pairwise_cons.1 hS
    have ih := ih h2
    unfold ofE at *
    simp only [List.map_cons, cnt, ih]
    by_cases hq : K = q
    · by_cases hx : x = bs
      · have hno : bs ∉ S := fun h => by have := h1 bs h; rw [hx, bsC_pc.refl] at this; omega
        rw [if_pos ⟨hq, hx⟩, if_neg (fun h => hno h.2), if_pos ⟨hq, by rw [hx]; exact List.mem_cons_self ..⟩]; rfl
      · rw [if_neg (fun h => hx h.2)]
        by_cases hm : bs ∈ S
        · rw [if_pos ⟨hq, hm⟩, if_pos ⟨hq, List.mem_cons_of_mem _ hm⟩]; rfl
        · rw [if_neg (fun h => hm h.2), if_neg (fun h => by rcases List.mem_cons.1 h.2 with h3 | h3; exact hx h3.symm; exact hm h3)]; rfl
    · rw [if_neg (fun h => hq h.1), if_neg (fun h => hq h.1), if_neg (fun h => hq h.1)]; rfl
theorem ofE_led (K : Int) {S : List (List Bnd)} (hS : S.Pairwise (fun a b => bsC a b < 0)) : Led (ofE K S) := by
  refine ⟨?_, fun x hx => ?_⟩
  · unfold ofE
    rw [List.pairwise_map]
    refine hS.imp fun h => ?_
    unfold entC
    simp only [orI, cmpI]
    simpa using h
  · obtain ⟨m, _, rfl⟩ := List.mem_map.1 hx; simp
structure StandsOk (K : Int) (l S : List (List Bnd)) : Prop where
  of : ofR K l = (ofE K S, 0)
  asc : S.Pairwise (fun a b => bsC a b < 0)
  mem : ∀ k, k ∈ S ↔ k ∈ l
  len : S.length ≤ l.length
  once : onceR (ofE K S) = (true, 0)
  stand : standR (ofE K S) K = (S, 0)
  other : standR (ofE K S) ((K + 1) % 16) = ([], 0)
  rest : ∀ i m, S[i]? = some m → applyR (ofE K S) [⟨-1, K, m⟩] = (ofE K (S.eraseIdx i), 0)
  left : ∀ i m, S[i]? = some m → standR (ofE K (S.eraseIdx i)) K = (S.eraseIdx i, 0)
theorem asc_len : ∀ {S l : List (List Bnd)}, S.Pairwise (fun a b => bsC a b < 0) → (∀ k, k ∈ S → k ∈ l) → S.length ≤ l.length := fun {S l} h hm => by
  induction S generalizing l with
  | nil => simp
  | cons x S ih =>
    obtain ⟨h1, h2⟩ := List.pairwise_cons.1 h
    have hx : x ∈ l := hm x (List.mem_cons_self ..)
    have h3 := ih (l := l.erase x) h2 fun k hk => by
      have hne : k ≠ x := fun e => by have := h1 k hk; rw [e, bsC_pc.refl] at this; omega
      exact (List.mem_erase_of_ne hne).2 (hm k (List.mem_cons_of_mem _ hk))
    rw [List.length_erase_of_mem hx] at h3
    have h4 := List.length_pos_of_mem hx
    rw [List.length_cons]
    omega
theorem stand_of (K : Int) (S : List (List Bnd)) : ((ofE K S).filter (stands K)).map (·.bs) = S := by
  unfold ofE
  rw [List.filter_eq_self.2]
  · rw [List.map_map]; simp [Function.comp_def]
  · intro x hx
    obtain ⟨m, _, rfl⟩ := List.mem_map.1 hx
    simp [stands]
theorem stand_other {K q : Int} (h : K ≠ q) (S : List (List Bnd)) : ((ofE K S).filter (stands q)).map (·.bs) = [] := by
  unfold ofE
  rw [List.filter_eq_nil_iff.2]
  · rfl
  · intro x hx
    obtain ⟨m, _, rfl⟩ := List.mem_map.1 hx
    simp [stands, h]
theorem led_ofE {K : Int} {S : List (List Bnd)} (hK : qOk K = true) (hS : S.Pairwise (fun a b => bsC a b < 0)) (hm : ∀ m ∈ S, matErr m = 0) (hl : S.length ≤ 4096) : ledErr (ofE K S) = 0 := by
  refine ledErr_0 (ofE_led K hS) (fun x hx => ?_) (by unfold ofE; rw [List.length_map]; exact hl)
  obtain ⟨m, h1, rfl⟩ := List.mem_map.1 hx
  refine ⟨?_, by simp only; omega⟩
  unfold subjE
  rw [hK, if_neg (by simp)]
  exact hm m h1
theorem erase_asc {S : List (List Bnd)} (hS : S.Pairwise (fun a b => bsC a b < 0)) {i : Nat} {m : List Bnd} (hi : S[i]? = some m) : (S.eraseIdx i).Pairwise (fun a b => bsC a b < 0) ∧ ∀ k, k ∈ S.eraseIdx i ↔ k ∈ S ∧ k ≠ m := by
  have hlt := (List.getElem?_eq_some_iff.1 hi).1
  have hs : S = S.take i ++ m :: S.drop (i + 1) := by
    have h1 := List.getElem?_eq_some_iff.1 hi
    obtain ⟨_, h2⟩ := h1
    rw [← h2, ← List.drop_eq_getElem_cons hlt, List.take_append_drop]
  have he : S.eraseIdx i = S.take i ++ S.drop (i + 1) := List.eraseIdx_eq_take_drop_succ S i
  refine ⟨hS.sublist (List.eraseIdx_sublist S i), fun k => ?_⟩
  rw [hs, List.pairwise_append] at hS
  obtain ⟨_, h2, h3⟩ := hS
  have h4 := (List.pairwise_cons.1 h2).1
  rw [he]
  constructor
  · intro hk
    refine ⟨?_, ?_⟩
    · rw [hs]
      rcases List.mem_append.1 hk with h | h
      · exact List.mem_append_left _ h
      · exact List.mem_append_right _ (List.mem_cons_of_mem _ h)
    · rintro rfl
      rcases List.mem_append.1 hk with h | h
      · have := h3 k h k (List.mem_cons_self ..); rw [bsC_pc.refl] at this; omega
      · have := h4 k h; rw [bsC_pc.refl] at this; omega
  · rintro ⟨hk, hne⟩
    rw [hs] at hk
    rcases List.mem_append.1 hk with h | h
    · exact List.mem_append_left _ h
    · rcases List.mem_cons.1 h with h | h
      · exact absurd h hne
      · exact List.mem_append_right _ h
theorem stands_ok {K : Int} {l : List (List Bnd)} (hK : 0 ≤ K ∧ K < 16) (hl : l.length ≤ 10) (hb : l.any badM = false) : StandsOk K l (sortM l) := by
  have hm : ∀ m ∈ l, matErr m = 0 := fun m hm => by
    rw [List.any_eq_false] at hb
    have := hb m hm
    unfold badM at this
    simp at this
    exact this.2
  have hqo : qOk K = true := by unfold qOk; simp; omega
  obtain ⟨h1, h2⟩ := sortM_ok l
  have hlen := asc_len h1 (fun k hk => (h2 k).1 hk)
  have hmS : ∀ m ∈ sortM l, matErr m = 0 := fun m h => hm m ((h2 m).1 h)
  have hme : matsErr l = 0 := by
    unfold matsErr
    have : ∀ (p : Option (List Bnd)) (l : List (List Bnd)), (∀ m ∈ l, matErr m = 0) → scanE (fun _ m => matErr m) p l = 0 := by
      intro p l
      induction l generalizing p with
      | nil => intro _; rfl
      | cons x l ih =>
        intro h
        simp only [scanE]
        rw [if_pos (h x (List.mem_cons_self ..))]
        exact ih _ fun c hc => h c (List.mem_cons_of_mem _ hc)
    exact this _ _ hm
  have hsr : sortR l = (sortM l, 0) := by unfold sortR; rw [if_neg (by simp [hme]), if_neg (by omega)]
  have hle := led_ofE hqo h1 hmS (by omega)
  have hq2 : qOk ((K + 1) % 16) = true := by unfold qOk; simp; omega
  refine ⟨?_, h1, h2, hlen, ?_, ?_, ?_, fun i m hi => ?_, fun i m hi => ?_⟩
  · unfold ofR; rw [hqo, if_neg (by simp), hsr]; rfl
  · unfold onceR
    rw [if_neg (by simp [hle])]
    have : (ofE K (sortM l)).any (fun x => x.n != 1) = false := by
      rw [List.any_eq_false]
      intro x hx
      obtain ⟨m, _, rfl⟩ := List.mem_map.1 hx
      simp
    rw [this]; rfl
  · unfold standR; rw [if_neg (by simp [hle]), hqo, if_neg (by simp), stand_of]
  · unfold standR; rw [if_neg (by simp [hle]), hq2, if_neg (by simp), stand_other (by omega)]
  · obtain ⟨e1, e2⟩ := erase_asc h1 hi
    have hme2 : matErr m = 0 := hmS m (List.mem_of_getElem? hi)
    have hce : ∀ c ∈ [(⟨-1, K, m⟩ : Chg)], chgE c = 0 := fun c hc => by
      simp at hc; subst hc
      unfold chgE subjE
      simp only
      rw [if_neg (by decide), hqo, if_neg (by simp)]
      exact hme2
    have hsA : sumA (ofE K (sortM l)) ≤ 1000000 := by
      have := sumA_le (l := ofE K (sortM l)) (B := 1) fun x hx => by
        obtain ⟨m, _, rfl⟩ := List.mem_map.1 hx
        simp [absI]
      have h5 : (ofE K (sortM l)).length = (sortM l).length := by unfold ofE; rw [List.length_map]
      omega
    have h5 : (ofE K (sortM l)).length = (sortM l).length := by unfold ofE; rw [List.length_map]
    rw [(apply_ok hle hce (by rw [h5]; simp; omega) hsA).1]
    rw [sum_is (ofE_led K e1) fun q bs => ?_]
    rw [cnt_app, cnt_ofE _ _ _ _ h1, cnt_ofE _ _ _ _ e1]
    simp only [List.map_cons, List.map_nil, cnt, ety]
    by_cases hq : K = q
    · by_cases hb : m = bs
      · subst hb
        rw [if_pos ⟨hq, List.mem_of_getElem? hi⟩, if_pos ⟨hq, rfl⟩, if_neg (fun h => ((e2 m).1 h.2).2 rfl)]; rfl
      · rw [if_neg (fun h : K = q ∧ m = bs => hb h.2)]
        by_cases hbs : bs ∈ sortM l
        · rw [if_pos ⟨hq, hbs⟩, if_pos ⟨hq, (e2 bs).2 ⟨hbs, fun h => hb h.symm⟩⟩]; rfl
        · rw [if_neg (fun h => hbs h.2), if_neg (fun h => hbs ((e2 bs).1 h.2).1)]; rfl
    · rw [if_neg (fun h => hq h.1), if_neg (fun h => hq h.1), if_neg (fun h => hq h.1)]; rfl
  · obtain ⟨e1, e2⟩ := erase_asc h1 hi
    have hle2 := led_ofE hqo e1 (fun m h => hmS m ((e2 m).1 h).1) (by have := List.length_eraseIdx_le (sortM l) i; omega)
    unfold standR; rw [if_neg (by simp [hle2]), hqo, if_neg (by simp), stand_of]
-- WALK
theorem u8_of_wf {n : Int} (h : (Lit.int .u8 n).wf = true) : 0 ≤ n ∧ n ≤ 255 := by
  have hmin : IntKind.u8.min = 0 := by rfl
  have hmax : IntKind.u8.max = 255 := by rfl
  simp only [Lit.wf, Bool.and_eq_true, decide_eq_true_eq, hmin, hmax] at h
  exact h
set_option maxHeartbeats 1000000 in
theorem badM_any (m : List Bnd) (v : Value) (w : World) (hl : IsBnds w v m) : Calls Tryd.prog 33 #[.agg #[v]] w fun e w' => e = .returned (.bool (badM m)) ∧ Below w.heap.size w w' := by
  have hc := fun W (hW : IsBnds W v m) => rmcheck_any m v W hW
  unfold matV at hc
  have HL := Lib.hid hl
  have HC := Lib.hid hc
  obtain ⟨A, c, rfl, h1, h2, -⟩ := hl
  have hn := len_i64 h1 h2
  clear hc h1 h2
  unfold badM
  by_cases h6 : 6 < (m.length : Int)
  · have h6' : decide (6 < (m.length : Int)) = true := by simpa using h6
    rw [h6']
    go_enter Tryd.func33, Tryd.ntmps33
    go_wp2_with fail
    go_ret
    exact ⟨by simp, (by repeat (first | exact Below.refl _ _ | assumption | refine Below.drew ?_ | refine bel_al ?_ _ | refine bel_set ?_ (by omega) _ | refine bel_tr ?_ (by assumption)))⟩
  · have h6' : decide (6 < (m.length : Int)) = false := by simpa using h6
    rw [h6']
    obtain ⟨e1, he⟩ : ∃ e, matErr m = e := ⟨_, rfl⟩
    have HE := Lib.hid he
    rw [he]
    clear he
    go_enter Tryd.func33, Tryd.ntmps33
    go_wp2_with fail
    refine (HC.out _ (HL.out.stays bndAt_stays (by repeat (first | exact Below.refl _ _ | assumption | refine Below.drew ?_ | refine bel_al ?_ _ | refine bel_set ?_ (by omega) _ | refine bel_tr ?_ (by assumption))))).mono ?_
    rw [HE.out]
    rintro e w2 ⟨rfl, hb2⟩
    have hb := bel_tr (bel_one _ _) hb2
    go_wp2_with fail
    go_ret
    exact ⟨by simp, hb⟩
theorem enter_badM (args : Array Value) (W : World) : (callFunc 33 args).run Tryd.prog W = .ok (.enter 33 args) W := enters_of Tryd.func33 (by kernel_rfl) rfl args W
theorem same_any (v : Value) (A : Option Addr) (n c : Nat) (w : World) (hv : v = .slice A n c) : Calls Tryd.prog 36 #[.agg #[v]] w fun e w' => e = .returned (.func (.func 37) #[] #[.pointer (some ⟨w.heap.size, 0, none⟩)]) ∧ w'.cell? ⟨w.heap.size, 0, none⟩ = some v ∧ Below w.heap.size w w' := by
  subst hv
  go_enter Tryd.func36, Tryd.ntmps36
  go_wp2_with fail
  go_ret
  exact ⟨rfl, by go_simp, (by repeat (first | exact Below.refl _ _ | assumption | refine Below.drew ?_ | refine bel_al ?_ _ | refine bel_set ?_ (by omega) _ | refine bel_tr ?_ (by assumption)))⟩
set_option maxHeartbeats 1000000 in
theorem sameP_any (m n : List Bnd) (u v : Value) (X : Nat) (w : World) (hu : IsBnds w u n) (hv : IsBnds w v m) (h0 : w.cell? ⟨X, 0, none⟩ = some v) :
    Calls Tryd.prog 37 #[.agg #[u], .pointer (some ⟨X, 0, none⟩)] w fun e w' => e = .returned (.bool (bsC m n == 0)) ∧ Below w.heap.size w w' := by
  have hc := fun W (h1 : IsBnds W v m) (h2 : IsBnds W u n) => rcompare_any m n v u W h1 h2
  unfold matV at hc
  have HU := Lib.hid hu
  have HV := Lib.hid hv
  have HC := Lib.hid hc
  obtain ⟨A, cu, rfl, -⟩ := hu
  obtain ⟨B, cv, rfl, -⟩ := hv
  have hl0 : X < w.heap.size := by have := World.block_lt_of_cell? w ⟨X, 0, none⟩ h0; simpa using this
  have hn : X ≠ w.heap.size := by omega
  have hn' : w.heap.size ≠ X := by omega
  clear hc
  go_enter Tryd.func37, Tryd.ntmps37
  go_wp2_with fail
  refine (HC.out _ (HV.out.stays bndAt_stays (by repeat (first | exact Below.refl _ _ | assumption | refine Below.drew ?_ | refine bel_al ?_ _ | refine bel_set ?_ (by omega) _ | refine bel_tr ?_ (by assumption)))) (HU.out.stays bndAt_stays (by repeat (first | exact Below.refl _ _ | assumption | refine Below.drew ?_ | refine bel_al ?_ _ | refine bel_set ?_ (by omega) _ | refine bel_tr ?_ (by assumption))))).mono ?_
  rintro e w3 ⟨rfl, hg3⟩
  have hb3 := bel_tr (bel_one _ _) hg3.below
  go_wp2_with fail
  go_ret
  exact ⟨rfl, hb3⟩
theorem enter_sameP (args : Array Value) (W : World) : (callFunc 37 args).run Tryd.prog W = .ok (.enter 37 args) W := enters_of Tryd.func37 (by kernel_rfl) rfl args W
/-- a list of matches that holds, or does not hold, this one -/
theorem has_any (S : List (List Bnd)) (m : List Bnd) (vS vm : Value) (X : Nat) (w : World) (hS : IsMats w vS S) (hm : IsBnds w vm m) (h0 : w.cell? ⟨X, 0, none⟩ = some vm) (r : Bool) (hr : r = true ↔ m ∈ S) :
    Calls Tryd.prog 32 #[vS, .func (.func 37) #[] #[.pointer (some ⟨X, 0, none⟩)]] w fun e w' => e = .returned (.bool r) ∧ Below w.heap.size w w' := by
  have h := containsMats_any 37 [.pointer (some ⟨X, 0, none⟩)] (fun n => bsC m n == 0) S vS w hS enter_sameP (fun W n u hW _ hu => sameP_any m n u vm X W hu (hm.stays bndAt_stays hW) (cell_stays hW h0))
  have hh : S.any (fun n => bsC m n == 0) = r := by
    rw [Bool.eq_iff_iff, hr, List.any_eq_true]
    constructor
    · rintro ⟨n, hn, h1⟩
      have := bsC_eq.1 (by simpa using h1)
      rw [this]; exact hn
    · intro hm
      exact ⟨m, hm, by rw [bsC_pc.refl]; rfl⟩
  rw [hh] at h
  exact h

set_option maxRecDepth 100000 in
set_option maxHeartbeats 8000000 in
theorem stands_walk (q : Int) (l : List (List Bnd)) (vl : Value) (z : Int) (w : World) (hq : 0 ≤ q ∧ q ≤ 255) (hl : IsMats w vl l) (hz : 0 ≤ z ∧ z ≤ 255) (htab : Tab w) :
    Calls Tryd.prog 7 #[.int .u8 q, vl, .int .u8 z] w fun e w' => e = .returned (.bool true) ∧ Below w.heap.size w w' := by
  obtain ⟨hq0, hq1⟩ := hq
  obtain ⟨hz0, hz1⟩ := hz
  have HL := Lib.hid hl
  have HT := Lib.hid htab
  obtain ⟨A, ca, rfl, h1, h2, hat⟩ := hl
  have hn := len_i64 h1 h2
  have HAT := Lib.hid hat
  clear htab h1 h2 hat
  have HCON := Lib.hid (fun W (hW : Below w.heap.size w W) => containsMats_any 33 [] badM l _ W (HL.out.stays matAt_stays hW) enter_badM (fun W2 x u _ _ hu => badM_any x u W2 hu))
  obtain ⟨K, hK⟩ : ∃ K : Int, q % 16 = K := ⟨_, rfl⟩
  have hK0 : 0 ≤ K ∧ K < 16 := by omega
  obtain ⟨hKa, hKb⟩ := hK0
  have HKK := Lib.hid (And.intro hKa hKb)
  by_cases h10 : 10 < (l.length : Int)
  · go_enter Tryd.func7, Tryd.ntmps7
    go_wp2_with fail
    refine (awake_any _ HT.out).mono ?_
    rintro e w3 ⟨rfl, hb3⟩
    go_wp2_with fail
    go_ret
    exact ⟨rfl, hb3⟩
  obtain ⟨t, ht⟩ : ∃ t, l.any badM = t := ⟨_, rfl⟩
  rw [ht] at HCON
  have HTB := Lib.hid ht
  clear ht
  cases t with
  | true =>
    go_enter Tryd.func7, Tryd.ntmps7
    go_wp2_with fail
    refine (HCON.out w (Below.refl _ _)).mono ?_
    rintro e w2 ⟨rfl, hb2⟩
    go_wp2_with fail
    refine (awake_any _ (HT.out.stays hb2)).mono ?_
    rintro e w3 ⟨rfl, hb3⟩
    go_wp2_with fail
    go_ret
    exact ⟨rfl, bel_tr hb2 hb3⟩
  | false =>
  have HM := Lib.hid (stands_ok HKK.out (by omega) HTB.out)
  obtain ⟨S, hS⟩ : ∃ S, sortM l = S := ⟨_, rfl⟩
  rw [hS] at HM
  clear hS
  have hSl : S.length ≤ l.length := HM.out.len
  have hS10 : S.length ≤ 10 := by omega
  obtain ⟨K2, hK2⟩ : ∃ K2 : Int, (K + 1) % 16 = K2 := ⟨_, rfl⟩
  have hKc : 0 ≤ K2 ∧ K2 < 16 := by omega
  have HOT : Hid (standR (ofE K S) K2 = ([], 0)) := Lib.hid (by rw [← hK2]; exact HM.out.other)
  have hlS : ¬ (l.length : Int) < (S.length : Int) := by omega
  go_enter Tryd.func7, Tryd.ntmps7
  go_wp2_with fail
  refine (HCON.out w (Below.refl _ _)).mono ?_
  rintro e w2 ⟨rfl, hb2⟩
  have HB2 := Lib.hid hb2
  clear hb2
  go_wp2_with fail
  refine (of_any K l _ w2 (HL.out.stays matAt_stays HB2.out) (by omega)).mono ?_
  rw [HM.out.of]
  rintro e w3 ⟨v3, rfl, hv3, hb3⟩
  have H3 := Lib.hid hv3
  obtain ⟨A3, c3, rfl⟩ := sl_len (n := S.length) hv3 (by simp [ofE])
  have HB3 := Lib.hid (bel_tr HB2.out hb3)
  clear hv3 hb3
  go_wp2_with fail
  refine (once_any (ofE K S) _ w3 H3.out).mono ?_
  rw [HM.out.once]
  rintro e w4 ⟨rfl, hb4⟩
  have H34 := Lib.hid (H3.out.stays entAt_stays hb4)
  have HB4 := Lib.hid (bel_tr HB3.out hb4)
  clear hb4
  go_wp2_with fail
  refine (standing_any (ofE K S) K _ w4 H34.out).mono ?_
  rw [HM.out.stand]
  rintro e w5 ⟨v5, rfl, hv5, hb5⟩
  have H5 := Lib.hid hv5
  have H35 := Lib.hid (H34.out.stays entAt_stays hb5)
  obtain ⟨A5, c5, rfl⟩ := sl_len (n := S.length) hv5 rfl
  have HB5 := Lib.hid (bel_tr HB4.out hb5)
  clear hv5 hb5
  go_wp2_with fail
  refine (standing_any (ofE K S) K2 _ w5 H35.out).mono ?_
  rw [HOT.out]
  rintro e w6 ⟨v6, rfl, hv6, hb6⟩
  obtain ⟨A6, c6, rfl⟩ := sl_len (n := 0) hv6 rfl
  have H36 := Lib.hid (H35.out.stays entAt_stays hb6)
  have H56 := Lib.hid (H5.out.stays matAt_stays hb6)
  have HB6 := Lib.hid (bel_tr HB5.out hb6)
  clear hv6 hb6
  have hSat := H56.out
  obtain ⟨_, _, hv, hl1, hl2, hat⟩ := hSat
  injection hv with e1 _ e3
  subst e1
  rw [← e3] at hl1 hl2
  have HSAT := Lib.hid hat
  have hnS := len_i64 hl1 hl2
  clear hat hl1 hl2 e3
  go_wp2_with fail
  go_loopw [88] (fun i wr => ∃ k : Nat, k ≤ S.length ∧ i = .int .i64 k ∧ Below w6.heap.size w6 wr) (fun i _ => S.length - (intOf i).toNat)
  case atStart => exact ⟨0, Nat.zero_le _, rfl, Below.refl _ _⟩
  case round =>
    obtain ⟨k, hk, rfl, hbr⟩ := hrel
    by_cases hlt : k < S.length
    · have hk' : (k : Int) < (S.length : Int) := by omega
      obtain ⟨b1, o1, rfl, v', hv', c0⟩ := HSAT.out k S[k] (List.getElem?_eq_getElem hlt)
      replace c0 := cell_stays hbr c0
      rw [Nat.mul_one] at c0
      have hget := Lib.hid (List.getElem?_eq_getElem hlt)
      obtain ⟨x, hx⟩ : ∃ x, x = S[k] := ⟨_, rfl⟩
      rw [← hx] at hget hv'
      have HV := Lib.hid (hv'.stays bndAt_stays hbr)
      obtain ⟨A', c', rfl, -⟩ := hv'
      have hbl : b1 < wr.heap.size := World.block_lt_of_cell? wr ⟨b1, _, none⟩ c0
      have hnb : b1 ≠ wr.heap.size := by omega
      have hnb' : wr.heap.size ≠ b1 := by omega
      have HX := Lib.hid hx
      clear hx
      go_wp2_with fail
      refine wp_gen fun w7 e7 => ?_
      obtain ⟨X, hX⟩ : ∃ X, wr.heap.size = X := ⟨_, rfl⟩
      have hb7 : Below wr.heap.size wr w7 := by rw [e7]; exact (by repeat (first | exact Below.refl _ _ | assumption | refine Below.drew ?_ | refine bel_al ?_ _ | refine bel_set ?_ (by omega) _ | refine bel_tr ?_ (by assumption)))
      have z0 : w7.cell? ⟨wr.heap.size, 0, none⟩ = some (.slice A' x.length c') := by rw [e7]; go_simp
      rw [hX] at z0 ⊢
      have hb67 := bel_tr hbr hb7
      have HB67 := Lib.hid hb67
      clear e7 hX c0 hnb hnb' hbl
      by_cases hk0 : k = 0
      · have d1 : decide (0 < k) = false := by simp [hk0]
        have d2 : decide ((0 : Int) < (k : Int)) = false := by simp [hk0]
        clear hk0
        refine wp_region_F (fun W => W.cell? ⟨X, 0, none⟩ = some (.slice A' x.length c')) (by repeat (first | exact grows_cell _ _ _ | exact grows_true | refine grows_and ?_ ?_)) (by kernel_rfl) (by kernel_rfl) ?hF ?_; (case hF => (first | exact ⟨‹_›, ‹_›⟩ | (go_simp; done) | (simp [*]; done) | (repeat' (first | (refine And.intro ?_ ?_) | (go_simp; done) | exact cell_stays (bel_al (Below.refl _ _) _) (by assumption) | assumption)))); intro hne hxx; have hG : Hid (Grows (fun W => W.cell? ⟨X, 0, none⟩ = some (.slice A' x.length c'))) := (by repeat (first | exact grows_cell _ _ _ | exact grows_true | refine grows_and ?_ ?_)); (repeat (go_big_quiet_step (fail))); clear hG hxx hne; refine wpQuiet_nil ?_; rintro wq ⟨⟨w', hb', hF'⟩, rfl⟩
        go_wp2_with fail
        go_roundw
        case rel => exact ⟨k + 1, by omega, by go_num, bel_tr HB67.out hb'⟩
        case measure => simp [intOf]; omega
      · have hk1 : (0 : Int) ≤ (k : Int) - 1 := by omega
        have hk2 : (k : Int) - 1 < (S.length : Int) := by omega
        have d1 : decide (0 < k) = true := by simp; omega
        have d2 : decide ((0 : Int) < (k : Int)) = true := by simp; omega
        obtain ⟨_, _, hbo, v2, hv2, p0⟩ := HSAT.out (k - 1) S[k - 1] (List.getElem?_eq_getElem (by omega))
        simp only [Option.some.injEq, Addr.mk.injEq, and_true] at hbo
        obtain ⟨rfl, rfl⟩ := hbo
        replace p0 := cell_stays hb67 p0
        rw [Nat.mul_one] at p0
        have hasc := List.pairwise_iff_getElem.1 HM.out.asc (k - 1) k (by omega) hlt (by omega)
        rw [← HX.out] at hasc
        obtain ⟨p, hp⟩ : ∃ p, p = S[k - 1] := ⟨_, rfl⟩
        rw [← hp] at hv2 hasc
        have HP := Lib.hid (hv2.stays bndAt_stays hb67)
        obtain ⟨A2, c2, rfl, -⟩ := hv2
        obtain ⟨r, hr⟩ : ∃ r, bsC p x = r := ⟨_, rfl⟩
        rw [hr] at hasc
        have d3 : decide (0 ≤ r) = false := by simp; omega
        have HRR := Lib.hid (fun W (hW : Below w7.heap.size w7 W) => gr_bel (rcompare_any p x _ _ W (HP.out.stays bndAt_stays hW) (HV.out.stays bndAt_stays (bel_tr hb7 hW))) hr)
        unfold matV at HRR
        clear hp hr hk0
        refine wp_region_F (fun W => W.cell? ⟨X, 0, none⟩ = some (.slice A' x.length c') ∧ W.cell? ⟨b1, o1 + (k - 1), none⟩ = some (.slice A2 p.length c2)) (by repeat (first | exact grows_cell _ _ _ | exact grows_true | refine grows_and ?_ ?_)) (by kernel_rfl) (by kernel_rfl) ?hF ?_; (case hF => (first | exact ⟨‹_›, ‹_›⟩ | (go_simp; done) | (simp [*]; done) | (repeat' (first | (refine And.intro ?_ ?_) | (go_simp; done) | exact cell_stays (bel_al (Below.refl _ _) _) (by assumption) | assumption)))); intro hne hxx; have hG : Hid (Grows (fun W => W.cell? ⟨X, 0, none⟩ = some (.slice A' x.length c') ∧ W.cell? ⟨b1, o1 + (k - 1), none⟩ = some (.slice A2 p.length c2))) := (by repeat (first | exact grows_cell _ _ _ | exact grows_true | refine grows_and ?_ ?_)); (repeat (go_big_quiet_step ((go_at_call 15; exact cls_callB hG (fun W hW => HRR.out W hW))))); clear hG hxx hne; refine wpQuiet_nil ?_; rintro wq ⟨⟨w', hb', hF'⟩, rfl⟩
        go_wp2_with fail
        go_roundw
        case rel => exact ⟨k + 1, by omega, by go_num, bel_tr HB67.out hb'⟩
        case measure => simp [intOf]; omega
    · have hk' : ¬ (k : Int) < (S.length : Int) := by omega
      have HB7 := Lib.hid (bel_tr HB6.out hbr)
      have H57 := Lib.hid (H56.out.stays matAt_stays hbr)
      have H37 := Lib.hid (H36.out.stays entAt_stays hbr)
      clear hk hbr
      obtain ⟨w7, rfl⟩ : ∃ w7 : World, w7 = wr := ⟨_, rfl⟩
      go_wp2_with fail
      go_loopw [108] (fun i wr => ∃ k : Nat, k ≤ l.length ∧ i = .int .i64 k ∧ Below w7.heap.size w7 wr) (fun i _ => l.length - (intOf i).toNat)
      case atStart => exact ⟨0, Nat.zero_le _, rfl, Below.refl _ _⟩
      case round =>
        obtain ⟨k, hk, rfl, hbr⟩ := hrel
        by_cases hlt : k < l.length
        · have hk' : (k : Int) < (l.length : Int) := by omega
          obtain ⟨b1, o1, rfl, v', hv', c0⟩ := HAT.out k l[k] (List.getElem?_eq_getElem hlt)
          have hbw := bel_tr HB7.out hbr
          replace c0 := cell_stays hbw c0
          rw [Nat.mul_one] at c0
          have hmem := (HM.out.mem l[k]).2 (List.getElem_mem hlt)
          obtain ⟨x, hx⟩ : ∃ x, x = l[k] := ⟨_, rfl⟩
          rw [← hx] at hv' hmem
          have HV := Lib.hid (hv'.stays bndAt_stays hbw)
          obtain ⟨A', c', rfl, -⟩ := hv'
          have hbl : b1 < wr.heap.size := World.block_lt_of_cell? wr ⟨b1, _, none⟩ c0
          have hnb : b1 ≠ wr.heap.size := by omega
          have hnb' : wr.heap.size ≠ b1 := by omega
          have HMEM := Lib.hid hmem
          clear hx hmem
          go_wp2_with fail
          refine calls_gen fun W9 e9 => ?_
          have hb9 : Below wr.heap.size wr W9 := by rw [e9]; exact (by repeat (first | exact Below.refl _ _ | assumption | refine Below.drew ?_ | refine bel_al ?_ _ | refine bel_set ?_ (by omega) _ | refine bel_tr ?_ (by assumption)))
          clear e9
          refine (same_any _ A' x.length c' W9 rfl).mono ?_
          rintro e w10 ⟨rfl, hbox, hb10⟩
          have hb910 := bel_tr hb9 hb10
          have HCN := Lib.hid (has_any S x _ _ W9.heap.size w10 (H57.out.stays matAt_stays (bel_tr hbr hb910)) (HV.out.stays bndAt_stays hb910) hbox true (by simp [HMEM.out]))
          have HBB := Lib.hid (bel_tr hbr hb910)
          obtain ⟨X9, hX9⟩ : ∃ X, W9.heap.size = X := ⟨_, rfl⟩
          rw [hX9] at HCN ⊢
          clear hbox hb10 hb910 hb9 c0 hnb hnb' hbl hX9
          go_wp2_with fail
          refine HCN.out.mono ?_
          rintro e w11 ⟨rfl, hb11⟩
          have HBC := Lib.hid (bel_tr HBB.out hb11)
          clear hb11
          go_wp2_with fail
          go_roundw
          case rel => exact ⟨k + 1, by omega, by go_num, HBC.out⟩
          case measure => simp [intOf]; omega
        · have hk' : ¬ (k : Int) < (l.length : Int) := by omega
          have HB8 := Lib.hid (bel_tr HB7.out hbr)
          have H58 := Lib.hid (H57.out.stays matAt_stays hbr)
          have H38 := Lib.hid (H37.out.stays entAt_stays hbr)
          clear hk hbr
          obtain ⟨w8, rfl⟩ : ∃ w8 : World, w8 = wr := ⟨_, rfl⟩
          by_cases hS0 : S.length = 0
          · have hS0' : ((S.length : Int) == 0) = true := by simp [hS0]
            clear hS0
            go_wp2_with fail
            refine (awake_any _ (HT.out.stays HB8.out)).mono ?_
            rintro e w9 ⟨rfl, hb9⟩
            go_wp2_with fail
            go_ret
            exact ⟨rfl, bel_tr HB8.out hb9⟩
          have hS0' : ((S.length : Int) == 0) = false := by rw [beq_eq_false_iff_ne]; omega
          have hSp : 0 < (S.length : Int) := by omega
          obtain ⟨I, hI⟩ : ∃ I : Nat, z % (S.length : Int) = (I : Int) := ⟨(z % (S.length : Int)).toNat, by have := Int.emod_nonneg z (show (S.length : Int) ≠ 0 by omega); omega⟩
          have hIl : I < S.length := by have := Int.emod_lt_of_pos z hSp; omega
          have hIi : (I : Int) < (S.length : Int) := by omega
          have hS8 := H58.out
          obtain ⟨_, _, hv, -, -, hat8⟩ := hS8
          injection hv with e1 _ _
          obtain ⟨b2, o2, hA5, vm, hvm, cm⟩ := hat8 I S[I] (List.getElem?_eq_getElem hIl)
          rw [← e1] at hA5
          subst hA5
          rw [Nat.mul_one] at cm
          have hgI := List.getElem?_eq_getElem (l := S) (i := I) hIl
          have hrest := HM.out.rest I _ hgI
          have hleft := HM.out.left I _ hgI
          have hers := erase_asc HM.out.asc hgI
          obtain ⟨m, hm⟩ : ∃ m, m = S[I] := ⟨_, rfl⟩
          rw [← hm] at hvm hrest hers
          have HVM := Lib.hid hvm
          obtain ⟨Am, cmm, rfl, -⟩ := hvm
          have hbl : b2 < w8.heap.size := World.block_lt_of_cell? w8 ⟨b2, _, none⟩ cm
          have hnb : b2 ≠ w8.heap.size := by omega
          have hnb' : w8.heap.size ≠ b2 := by omega
          obtain ⟨E, hE⟩ : ∃ E, S.eraseIdx I = E := ⟨_, rfl⟩
          have hEl : E.length = S.length - 1 := by rw [← hE, List.length_eraseIdx_of_lt hIl]
          rw [hE] at hrest hleft hers
          have HRE := Lib.hid hrest
          have HLE := Lib.hid hleft
          have HNO : Hid (¬ m ∈ E) := Lib.hid fun h => ((hers.2 m).1 h).2 rfl
          have hEi : (E.length : Int) = (S.length : Int) - 1 := by omega
          have hEb : ((E.length : Int) == (S.length : Int) - 1) = true := by simp [hEi]
          have HEL := Lib.hid hEl
          clear hgI hrest hleft hers hm hE hEl hat8 e1 hS0 hEi
          go_wp2_with fail
          refine calls_gen fun W9 e9 => ?_
          obtain ⟨X, hX⟩ : ∃ X, w8.heap.size = X := ⟨_, rfl⟩
          have hb9 : Below w8.heap.size w8 W9 := by rw [e9]; exact (by repeat (first | exact Below.refl _ _ | assumption | refine Below.drew ?_ | refine bel_al ?_ _ | refine bel_set ?_ (by omega) _ | refine bel_tr ?_ (by assumption)))
          have z0 : W9.cell? ⟨w8.heap.size, 0, none⟩ = some (.slice Am m.length cmm) := by rw [e9]; go_simp
          have hC9 : IsChgs W9 (.slice (some ⟨w8.heap.size + 1, 0, none⟩) 1 1) [⟨-1, K, m⟩] := sl_new (chg_mean (s := -1) (q := K) HVM.out) (bel_one _ _) e9 (by simp) rfl (by decide)
          rw [hX] at z0 hC9 ⊢
          have HB9 := Lib.hid (bel_tr HB8.out hb9)
          have HB89 := Lib.hid hb9
          clear e9 hX cm hnb hnb' hbl hb9
          refine (apply_any (ofE K S) [⟨-1, K, m⟩] _ _ W9 (H38.out.stays entAt_stays HB89.out) hC9 (HT.out.stays HB9.out)).mono ?_
          clear hC9
          rw [HRE.out]
          rintro e w10 ⟨v10, rfl, hv10, hb10⟩
          have H10 := Lib.hid hv10
          obtain ⟨A10, c10, rfl⟩ := sl_len (n := E.length) hv10 (by simp [ofE])
          replace z0 := cell_stays hb10 z0
          have HB10 := Lib.hid (bel_tr HB9.out hb10)
          have HB810 := Lib.hid (bel_tr HB89.out hb10)
          clear hv10 hb10
          go_wp2_with fail
          refine (standing_any (ofE K E) K _ w10 H10.out).mono ?_
          rw [HLE.out]
          rintro e w11 ⟨v11, rfl, hv11, hb11⟩
          have H11 := Lib.hid hv11
          obtain ⟨A11, c11, rfl⟩ := sl_len (n := E.length) hv11 rfl
          replace z0 := cell_stays hb11 z0
          have HB11 := Lib.hid (bel_tr HB10.out hb11)
          have HB811 := Lib.hid (bel_tr HB810.out hb11)
          clear hv11 hb11
          go_wp2_with fail
          refine (same_any _ Am m.length cmm w11 rfl).mono ?_
          rintro e w12 ⟨rfl, hbox, hb12⟩
          have HCN := Lib.hid (has_any E m _ _ w11.heap.size w12 (H11.out.stays matAt_stays hb12) (HVM.out.stays bndAt_stays (bel_tr HB811.out hb12)) hbox false (by simp [HNO.out]))
          have HB12 := Lib.hid (bel_tr HB11.out hb12)
          clear hbox hb12 z0
          go_wp2_with fail
          refine HCN.out.mono ?_
          rintro e w13 ⟨rfl, hb13⟩
          have HB13 := Lib.hid (bel_tr HB12.out hb13)
          clear hb13
          go_wp2_with fail
          refine (awake_any _ (HT.out.stays HB13.out)).mono ?_
          rintro e w14 ⟨rfl, hb14⟩
          go_wp2_with fail
          go_ret
          exact ⟨rfl, bel_tr HB13.out hb14⟩
-- FRAME
set_option maxRecDepth 100000 in
theorem stands_lifted (os : Os) (started : os.Started) (H : Type) (enc : TypeId × Value → H) :
    ReturnsInHanded {} Tryd.checked os 7 .any (fun w args => (Rows.ledgerStandsSpec.pre enc Tryd.prog Tryd.f7 [] false w args ∧ laidMetH Tryd.prog theLaid w) ∧ sizedMet enc Tryd.prog Tryd.f7 (OpenSpec.ofChange Rows.ledgerStandsSpec) false w args)
      (Rows.ledgerStandsSpec.post enc Tryd.prog Tryd.f7 false true false false) := by
  refine returnsInHanded_of_change_and (C := Tryd.checked) (X := fun w _ => laidMetH Tryd.prog theLaid w) (fun _ _ _ hh h => h.of_heap hh) own_none started (by kernel_rfl) Tryd.func7
    (ChangeSpec.witness_shaped (enc := enc) (C := Tryd.checked) (os := os) (X := fun w _ => laidMetH Tryd.prog theLaid w) false (World.doorLaid Tryd.prog 400 os) #[.int .u8 0, .slice none 0 0, .int .u8 0] 8 rfl (World.shaped_of_RefB (by kernel_rfl) (by kernel_rfl)) (by kernel_rfl) (by kernel_rfl) (by kernel_rfl) (door_met os _)) ?_
  intro W base args ds gs before hval0 hW _ _ hL _
  have htab := tab_of_laid hL
  have hval : ∀ (j : Nat) t v, Tryd.f7.params[j]? = some t → args[j]? = some v → Value.okWide Tryd.prog W .any base t v := hval0
  have hW' := hW
  obtain ⟨p, q, hA0, hV, rfl, hfz, hnd⟩ := hW
  have hA : DataW.TrodAll enc Tryd.prog W 0 (fun _ => true) true Tryd.f7.params.toList args.toList ds p := hA0
  rw [Tryd.params7] at hA hval
  obtain ⟨v0, vs0, d0, ds0, p0, q0, hargs, rfl, rfl, h0, r0⟩ := trodAll_cons hA
  obtain ⟨v1, vs1, d1, ds1, p1, q1, rfl, rfl, rfl, h1, r1⟩ := trodAll_cons r0
  obtain ⟨v2, vs2, d2, ds2, p2, q2, rfl, rfl, rfl, h2, r2⟩ := trodAll_cons r1
  obtain ⟨rfl, rfl, rfl⟩ := trodAll_nil r2
  obtain rfl : args = #[v0, v1, v2] := by cases args; simp_all
  obtain ⟨rfl, rfl⟩ := trodVars_none hV
  have k0 := h0
  have lt0 : ∀ x ∈ p0, x.block < W.heap.size := by obtain ⟨m, hm⟩ := k0; exact DataW.trod_lt m _ _ _ hm
  obtain ⟨a0, e0, w0⟩ : ∃ a, v0 = .int .u8 a ∧ 0 ≤ a ∧ a ≤ 255 := by obtain ⟨a, e, -, -, hw⟩ := open_int Tryd.underlying5 (hval 0 5 v0 rfl rfl) h0; exact ⟨a, e, u8_of_wf hw⟩
  subst e0
  have k1 := h1
  have lt1 : ∀ x ∈ p1, x.block < W.heap.size := by obtain ⟨m, hm⟩ := k1; exact DataW.trod_lt m _ _ _ hm
  obtain ⟨s1, len1, cap1, rfl⟩ := okWide_slice Tryd.underlying52 (hval 1 52 v1 rfl rfl)
  obtain ⟨l1, w1⟩ : ∃ l, IsMats W (.slice s1 len1 cap1) l := by obtain ⟨fuel, hf⟩ := h1; exact read_mats (v := .slice s1 len1 cap1) hf
  have k2 := h2
  have lt2 : ∀ x ∈ p2, x.block < W.heap.size := by obtain ⟨m, hm⟩ := k2; exact DataW.trod_lt m _ _ _ hm
  obtain ⟨a2, e2, w2⟩ : ∃ a, v2 = .int .u8 a ∧ 0 ≤ a ∧ a ≤ 255 := by obtain ⟨a, e, -, -, hw⟩ := open_int Tryd.underlying5 (hval 2 5 v2 rfl rfl) h2; exact ⟨a, e, u8_of_wf hw⟩
  subst e2
  clear hA0 hval0
  refine (stands_walk a0 l1 _ a2 W w0 w1 w2 htab).mono fun e W' ⟨he, bel⟩ => ?_
  subst he
  exact ⟨_, rfl, _, _, _, [], _, [], hW', trodAll_mk1 (shut_bool Tryd.underlying4 _), (trodAll_cons_mk (Below.trod laid_out (by kernel_rfl) (of_decide_eq_true (by kernel_rfl)) k0 bel lt0) (trodAll_cons_mk (Below.trod laid_out (by kernel_rfl) (of_decide_eq_true (by kernel_rfl)) k1 bel lt1) (trodAll_cons_mk (Below.trod laid_out (by kernel_rfl) (of_decide_eq_true (by kernel_rfl)) k2 bel lt2) trodAll_mk0))), rfl, bel.frame _, fun h => by cases h⟩

theorem stands_holds : Rows.LedgerStandsSaid :=
  OpenClaim.holds_of_wide 7 Tryd.f7 rfl rfl rfl rfl rfl rfl rfl ⟨rfl, rfl, rfl, rfl, rfl⟩ rfl rfl rfl rfl rfl (by kernel_rfl) Tryd.func7 (by kernel_rfl)
    (of_decide_eq_true (by kernel_rfl)) (by unfold Func.isWrapper; first | (rw [if_pos (by decide +kernel)]; kernel_rfl) | (rw [if_neg (by decide +kernel)]; exact ⟨rfl, rfl⟩))
    (fun os started H enc _ => stands_lifted os started H enc)

theorem stands_card : Rows.LedgerStandsCardSaid :=
  Claim7.holds_tied_plain_at .later [] [.data, .data, .data] true _ false
    stands_holds (fun _ h => by cases h) (by kernel_rfl) (fun _ h => by cases h) ledgerStands_row_tie rfl ⟨rfl, rfl⟩ (by kernel_rfl) rfl
    (fun f fn hf hfn => by
      obtain rfl : f = 7 := Option.some.inj ((show Tryd.prog.funcNamed "tidegate/tidegatelaw41.LedgerStands" = some 7 by kernel_rfl).symm.trans hf) |>.symm
      obtain rfl : fn = Tryd.f7 := (Option.some.inj (Tryd.func7.symm.trans hfn)).symm
      exact ⟨by kernel_rfl, fun j t ht => by
        rw [Tryd.params7] at ht
        have hm : t ∈ [5, 52, 5] := by simpa using Array.mem_of_getElem? ht
        have hall : ([5, 52, 5].all fun u => !Tryd.prog.wantsStandIn u) = true := by kernel_rfl
        exact (show Tryd.prog.wantsStandIn t = false by simpa using List.all_eq_true.1 hall t hm)⟩)
    (by kernel_rfl)
#print axioms stands_card
end Go.Proofs.YtlofjcicpkfcdaaDoor
