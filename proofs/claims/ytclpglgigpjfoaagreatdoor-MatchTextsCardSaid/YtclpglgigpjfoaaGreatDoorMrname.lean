/- ref06.Letter, Digit, Keyword, word, Name. -/
import Derived.Test.YtclpglgigpjfoaaGreatDoorMlex
namespace Go.Proofs.YtclpglgigpjfoaaGreatDoor
open Go.RowKit

theorem rletter_any (n : Int) (w : World) : Calls Tryz.prog 98 #[.int .u8 n] w fun e w' => e = .returned (.bool (letN n)) ∧ w = w' := by
  unfold letN
  by_cases h1 : n = 95
  · subst h1
    go_enter Tryz.func98, Tryz.ntmps98
    go_wp2
    go_ret
    exact ⟨by simp, rfl⟩
  · have h1' : (n == 95) = false := by simpa using h1
    by_cases h2 : 97 ≤ n
    · by_cases h3 : n ≤ 122
      · go_enter Tryz.func98, Tryz.ntmps98
        go_wp2
        go_ret
        exact ⟨by simp [h1, h2, h3], rfl⟩
      · have h4 : 65 ≤ n := by omega
        have h5 : ¬ n ≤ 90 := by omega
        go_enter Tryz.func98, Tryz.ntmps98
        go_wp2
        go_ret
        exact ⟨by simp [h1, h2, h3, h4, h5], rfl⟩
    · by_cases h4 : 65 ≤ n
      · by_cases h5 : n ≤ 90 <;>
        · go_enter Tryz.func98, Tryz.ntmps98
          go_wp2
          go_ret
          exact ⟨by simp [h1, h2, h4, h5] <;> omega, rfl⟩
      · go_enter Tryz.func98, Tryz.ntmps98
        go_wp2
        go_ret
        exact ⟨by simp [h1, h2, h4] <;> omega, rfl⟩
theorem rdigit_any (n : Int) (w : World) : Calls Tryz.prog 134 #[.int .u8 n] w fun e w' => e = .returned (.bool (digN n)) ∧ w = w' := by
  unfold digN
  by_cases h2 : 48 ≤ n
  · by_cases h3 : n ≤ 57 <;>
    · go_enter Tryz.func134, Tryz.ntmps134
      go_wp2
      go_ret
      exact ⟨by simp [h2, h3], rfl⟩
  · go_enter Tryz.func134, Tryz.ntmps134
    go_wp2
    go_ret
    exact ⟨by simp; omega, rfl⟩

set_option maxRecDepth 100000 in
set_option maxHeartbeats 8000000 in
theorem rkeyword_any (s : ByteArray) (w : World) : Calls Tryz.prog 100 #[.string s] w fun e w' => e = .returned (.bool (kwB s.data.toList)) ∧ w = w' := by
  obtain ⟨L, hL⟩ : ∃ L, s.toList = L := ⟨_, rfl⟩
  rw [← ByteArray.toList_eq, hL]
  by_cases hk : L ∈ kws
  · have ht : kwB L = true := decide_eq_true hk
    rw [ht]
    clear ht
    simp only [kws, List.mem_cons, List.not_mem_nil, or_false] at hk
    rcases hk with rfl | rfl | rfl | rfl | rfl | rfl | rfl | rfl | rfl | rfl | rfl | rfl | rfl | rfl | rfl | rfl | rfl | rfl | rfl | rfl | rfl | rfl | rfl | rfl | rfl | rfl | rfl | rfl
    all_goals
      go_enter Tryz.func100, Tryz.ntmps100
      go_wp2_with fail
      go_ret
      exact ⟨rfl, rfl⟩
  · have ht : kwB L = false := decide_eq_false hk
    rw [ht]
    clear ht
    have f : ∀ x ∈ kws, (L == x) = false := fun x hx => by
      rw [beq_eq_false_iff_ne]
      rintro rfl
      exact hk hx
    simp only [kws, List.forall_mem_cons] at f
    obtain ⟨f0, f1, f2, f3, f4, f5, f6, f7, f8, f9, f10, f11, f12, f13, f14, f15, f16, f17, f18, f19, f20, f21, f22, f23, f24, f25, f26, f27, -⟩ := f
    clear hk
    go_enter Tryz.func100, Tryz.ntmps100
    go_wp2_with fail
    go_ret
    exact ⟨rfl, rfl⟩

/-! ### word: how many letters and digits a text begins with -/
def wordL (l : List UInt8) : Nat := (l.takeWhile wordB).length
theorem wordL_at : ∀ {l : List UInt8} {k : Nat} {x : UInt8}, l[k]? = some x → (l.take k).all wordB = true → wordB x = false → wordL l = k
  | [], k, x, h, _, _ => by simp at h
  | y :: l, 0, x, h, _, hx => by
    simp at h; subst h
    simp [wordL, hx]
  | y :: l, k + 1, x, h, ha, hx => by
    simp only [List.take_succ_cons, List.all_cons, Bool.and_eq_true] at ha
    have := wordL_at (l := l) (k := k) (x := x) (by simpa using h) ha.2 hx
    unfold wordL at this ⊢
    rw [List.takeWhile_cons, if_pos ha.1, List.length_cons, this]
theorem wordL_all : ∀ {l : List UInt8}, l.all wordB = true → wordL l = l.length
  | [], _ => rfl
  | x :: l, h => by
    rw [List.all_cons, Bool.and_eq_true] at h
    have ih := wordL_all h.2
    unfold wordL at ih ⊢
    rw [List.takeWhile_cons, if_pos h.1, List.length_cons, List.length_cons, ih]
theorem wordL_iff {l : List UInt8} : wordL l = l.length ↔ l.all wordB = true := by
  refine ⟨fun h => ?_, wordL_all⟩
  unfold wordL at h
  have hp := List.takeWhile_prefix (l := l) wordB
  have he : l.takeWhile wordB = l := List.IsPrefix.eq_of_length hp h
  rw [← he]
  exact List.all_takeWhile
theorem wordL_le (l : List UInt8) : wordL l ≤ l.length := (List.takeWhile_prefix (l := l) wordB).length_le

set_option maxRecDepth 100000 in
set_option maxHeartbeats 1000000 in
theorem rword_any (s : ByteArray) (w : World) (hs : s.size ≤ 1048576) : Calls Tryz.prog 99 #[.string s, .int .i64 0] w fun e w' => e = .returned (.int .i64 (wordL s.data.toList : Int)) ∧ w = w' := by
  obtain ⟨L, hL⟩ : ∃ L, s.data.toList = L := ⟨_, rfl⟩
  have hlen : L.length = s.size := by rw [← hL]; rfl
  have HLEN := Lib.hid hlen
  obtain ⟨R, hR⟩ : ∃ R, wordL s.data.toList = R := ⟨_, rfl⟩
  have HR : Hid (wordL L = R) := Lib.hid (by rw [← hL]; exact hR)
  have HL := Lib.hid hL
  rw [hR]
  clear hL hlen hR
  go_enter Tryz.func99, Tryz.ntmps99
  go_wp2_with fail
  go_loopw [1] (fun i wr => wr = w ∧ ∃ k : Nat, k ≤ s.size ∧ i = .int .i64 k ∧ Hid ((L.take k).all wordB = true)) (fun i _ => s.size - (intOf i).toNat)
  case atStart => exact ⟨rfl, 0, Nat.zero_le _, rfl, Lib.hid rfl⟩
  case round =>
    obtain ⟨rfl, k, hk, rfl, hi⟩ := hrel
    by_cases hlt : k < s.size
    · have hk' : (k : Int) < (s.size : Int) := by omega
      have hlt' : k < L.length := by rw [HLEN.out]; exact hlt
      have hget := Lib.hid (List.getElem?_eq_getElem hlt')
      obtain ⟨x, hx⟩ : ∃ x, x = L[k] := ⟨_, rfl⟩
      rw [← hx] at hget
      have hx2 : s[k] = x := by
        have h1 : L[k]? = some s[k] := by rw [← HL.out]; simp [ByteArray.getElem_eq_getElem_data, hlt]
        rw [hget.out] at h1
        exact (Option.some.inj h1).symm
      obtain ⟨n, hn0⟩ : ∃ n : Int, (x.toNat : Int) = n := ⟨_, rfl⟩
      have hix : ∀ W, (Instr.index 9 (.string s) (.int .i64 (k : Int))).run Tryz.prog W = .ok (.int .u8 n) W := fun W => by
        rw [run_index_string W 9 s .i64 (k : Int) Tryz.underlying9, dif_pos ⟨by omega, hk'⟩]
        have : s[(k : Int).toNat]'(by simpa using hlt) = x := by simpa using hx2
        rw [this, hn0]
      have HP : Hid (letN n = letB x) := Lib.hid (by rw [← hn0, letN_is])
      have HQ : Hid (digN n = digB x) := Lib.hid (by rw [← hn0, digN_is])
      clear hx hx2 hn0 hlt'
      obtain ⟨p, hp⟩ : ∃ p, letB x = p := ⟨_, rfl⟩
      obtain ⟨q, hq⟩ : ∃ q, digB x = q := ⟨_, rfl⟩
      have HB : Hid (wordB x = (p || q)) := Lib.hid (by unfold wordB; rw [hp, hq])
      have HP' := Lib.hid (HP.out.trans hp)
      have HQ' := Lib.hid (HQ.out.trans hq)
      clear hp hq HP HQ
      cases p
      case true =>
        go_wp2_with (first | (go_at_call 98; refine (rletter_any _ _).mono ?_; rw [HP'.out]; rintro e w' ⟨rfl, rfl⟩) | (go_at_call 134; refine (rdigit_any _ _).mono ?_; rw [HQ'.out]; rintro e w' ⟨rfl, rfl⟩))
        go_roundw
        case rel => exact ⟨by trivial, k + 1, by omega, by go_num, Lib.hid (by rw [take_snoc' hget.out, List.all_append, hi.out]; simp [HB.out])⟩
        case measure => simp [intOf]; omega
      case false =>
        cases q
        case true =>
          go_wp2_with (first | (go_at_call 98; refine (rletter_any _ _).mono ?_; rw [HP'.out]; rintro e w' ⟨rfl, rfl⟩) | (go_at_call 134; refine (rdigit_any _ _).mono ?_; rw [HQ'.out]; rintro e w' ⟨rfl, rfl⟩))
          go_roundw
          case rel => exact ⟨by trivial, k + 1, by omega, by go_num, Lib.hid (by rw [take_snoc' hget.out, List.all_append, hi.out]; simp [HB.out])⟩
          case measure => simp [intOf]; omega
        case false =>
          have hr : R = k := by rw [← HR.out]; exact wordL_at hget.out hi.out HB.out
          subst hr
          go_wp2_with (first | (go_at_call 98; refine (rletter_any _ _).mono ?_; rw [HP'.out]; rintro e w' ⟨rfl, rfl⟩) | (go_at_call 134; refine (rdigit_any _ _).mono ?_; rw [HQ'.out]; rintro e w' ⟨rfl, rfl⟩))
          go_ret
          exact ⟨rfl, rfl⟩
    · have hk' : ¬ (k : Int) < (s.size : Int) := by omega
      have hr : R = k := by
        have h1 := hi.out
        rw [List.take_of_length_le (by rw [HLEN.out]; omega)] at h1
        rw [← HR.out, wordL_all h1, HLEN.out]
        omega
      subst hr
      go_wp2_with fail
      go_ret
      exact ⟨rfl, rfl⟩

theorem rname_any (l : List UInt8) (w : World) (hlen : l.length ≤ 1048576) : Calls Tryz.prog 72 #[.string ⟨⟨l⟩⟩] w fun e w' => e = .returned (.int .i64 (nameE l)) ∧ w = w' := by
  obtain ⟨R, hR⟩ : ∃ R, nameE l = R := ⟨_, rfl⟩
  have HR := Lib.hid hR
  rw [hR]
  clear hR
  cases l with
  | nil =>
    go_enter Tryz.func72, Tryz.ntmps72
    go_wp2_with fail
    go_ret
    exact ⟨ret_i ((name_8 (.inl rfl)).symm.trans HR.out), rfl⟩
  | cons c l =>
    have he : (c :: l).isEmpty = false := rfl
    by_cases hm : 24 < (c :: l).length
    · have hm' : (24 : Int) < (((c :: l).length : Nat) : Int) := by omega
      simp only [List.length_cons] at hm hm' hlen
      go_enter Tryz.func72, Tryz.ntmps72
      go_wp2_with fail
      go_ret
      exact ⟨ret_i ((name_8 (.inr (.inl (by simpa using hm)))).symm.trans HR.out), rfl⟩
    · have HM := Lib.hid hm
      simp only [List.length_cons] at hm hlen
      have hm' : ¬ (24 : Int) < (l.length : Int) + 1 := by omega
      cases hd : letB c with
      | false =>
        have HD : Hid (letN (c.toNat : Int) = false) := Lib.hid (by rw [letN_is]; exact hd)
        have HE := Lib.hid (name_8 (l := c :: l) (.inr (.inr (.inl hd))))
        clear hd
        go_enter Tryz.func72, Tryz.ntmps72
        go_wp2_with (go_at_call 98; refine (rletter_any (c.toNat : Int) _).mono ?_; rw [HD.out]; rintro e w' ⟨rfl, rfl⟩)
        go_ret
        exact ⟨ret_i (HE.out.symm.trans HR.out), rfl⟩
      | true =>
        have HD : Hid (letN (c.toNat : Int) = true) := Lib.hid (by rw [letN_is]; exact hd)
        have HDB := Lib.hid hd
        clear hd
        obtain ⟨W, hW⟩ : ∃ W, wordL (c :: l) = W := ⟨_, rfl⟩
        have HW := Lib.hid hW
        have hle := wordL_le (c :: l)
        rw [hW] at hle
        clear hW
        simp only [List.length_cons] at hle
        by_cases hfull : W = l.length + 1
        · have hall : Hid ((c :: l).all wordB = true) := Lib.hid (wordL_iff.1 (by rw [HW.out, hfull]; rfl))
          have hf' : (W : Int) = (l.length : Int) + 1 := by omega
          have HF := Lib.hid hfull
          clear hfull hle
          cases hkw : kwB (c :: l) with
          | true =>
            have HK := Lib.hid hkw
            clear hkw
            go_enter Tryz.func72, Tryz.ntmps72
            go_wp2_with (first | (go_at_call 98; refine (rletter_any (c.toNat : Int) _).mono ?_; rw [HD.out]; rintro e w' ⟨rfl, rfl⟩) | (go_at_call 99; refine (rword_any ⟨⟨c :: l⟩⟩ _ (by simp [ByteArray.size]; omega)).mono ?_; rw [show (⟨⟨c :: l⟩⟩ : ByteArray).data.toList = c :: l from rfl, HW.out]; rintro e w' ⟨rfl, rfl⟩) | (go_at_call 100; refine (rkeyword_any ⟨⟨c :: l⟩⟩ _).mono ?_; rw [show (⟨⟨c :: l⟩⟩ : ByteArray).data.toList = c :: l from rfl, HK.out]; rintro e w' ⟨rfl, rfl⟩))
            go_ret
            exact ⟨ret_i ((name_8 (.inr (.inr (.inr (.inr HK.out))))).symm.trans HR.out), rfl⟩
          | false =>
            have HK := Lib.hid hkw
            clear hkw
            go_enter Tryz.func72, Tryz.ntmps72
            go_wp2_with (first | (go_at_call 98; refine (rletter_any (c.toNat : Int) _).mono ?_; rw [HD.out]; rintro e w' ⟨rfl, rfl⟩) | (go_at_call 99; refine (rword_any ⟨⟨c :: l⟩⟩ _ (by simp [ByteArray.size]; omega)).mono ?_; rw [show (⟨⟨c :: l⟩⟩ : ByteArray).data.toList = c :: l from rfl, HW.out]; rintro e w' ⟨rfl, rfl⟩) | (go_at_call 100; refine (rkeyword_any ⟨⟨c :: l⟩⟩ _).mono ?_; rw [show (⟨⟨c :: l⟩⟩ : ByteArray).data.toList = c :: l from rfl, HK.out]; rintro e w' ⟨rfl, rfl⟩))
            go_ret
            refine ⟨ret_i (Eq.trans ?_ HR.out), rfl⟩
            unfold nameE
            rw [if_pos ⟨by simp, by simp; omega, HDB.out, hall.out, HK.out⟩]
        · have hall : Hid ((c :: l).any badB = true) := Lib.hid (by
            cases hb : (c :: l).any badB with
            | true => rfl
            | false =>
              refine absurd ?_ hfull
              rw [← HW.out]
              refine wordL_all (List.all_eq_true.2 fun x hx => ?_)
              have := (List.any_eq_false.1 hb) x hx
              unfold badB at this
              simpa using this)
          have hf' : ¬ (W : Int) = (l.length : Int) + 1 := by omega
          clear hfull hle
          go_enter Tryz.func72, Tryz.ntmps72
          go_wp2_with (first | (go_at_call 98; refine (rletter_any (c.toNat : Int) _).mono ?_; rw [HD.out]; rintro e w' ⟨rfl, rfl⟩) | (go_at_call 99; refine (rword_any ⟨⟨c :: l⟩⟩ _ (by simp [ByteArray.size]; omega)).mono ?_; rw [show (⟨⟨c :: l⟩⟩ : ByteArray).data.toList = c :: l from rfl, HW.out]; rintro e w' ⟨rfl, rfl⟩))
          go_ret
          exact ⟨ret_i ((name_8 (.inr (.inr (.inr (.inl hall.out))))).symm.trans HR.out), rfl⟩

end Go.Proofs.YtclpglgigpjfoaaGreatDoor
