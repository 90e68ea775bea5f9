/- lexer.letter, digit, Keyword, Name. -/
import Derived.Test.YtclpglgigpjfoaaGreatDoorQMname
import Derived.Test.YtclpglgigpjfoaaGreatDoorQKown
import Derived.Test.YtclpglgigpjfoaaGreatDoorQShelfT
namespace Go.Proofs.YtclpglgigpjfoaaGreatDoor
open Go.RowKit

/-- what the library's functions on texts read: its table of powers, its bound -/
def Lx (w : World) : Prop := Tab w ∧ ∃ m : Int, w.cell? ⟨0, 0, none⟩ = some (.int .i64 m)
theorem Lx.stays {w w' : World} (h : Lx w) (hb : Below w.heap.size w w') : Lx w' := ⟨h.1.stays hb, h.2.imp fun _ hm => cell_stays hb hm⟩
def letN (n : Int) : Bool := decide (n = 95) || ((decide (97 ≤ n) && decide (n ≤ 122)) || (decide (65 ≤ n) && decide (n ≤ 90)))
def digN (n : Int) : Bool := decide (48 ≤ n) && decide (n ≤ 57)
theorem letN_is (c : UInt8) : letN (c.toNat : Int) = letB c := by
  unfold letN letB
  rw [Bool.eq_iff_iff]
  simp only [Bool.or_eq_true, Bool.and_eq_true, decide_eq_true_eq, beq_iff_eq, UInt8.le_iff_toNat_le]
  have : c = 95 ↔ c.toNat = 95 := ⟨fun h => by rw [h]; rfl, fun h => UInt8.toNat_inj.1 (by rw [h]; rfl)⟩
  simp only [this]
  simp
  omega
theorem digN_is (c : UInt8) : digN (c.toNat : Int) = digB c := by
  unfold digN digB
  rw [Bool.eq_iff_iff]
  simp only [Bool.and_eq_true, decide_eq_true_eq, UInt8.le_iff_toNat_le]
  simp
  omega
theorem letter_any (n : Int) (w : World) : Calls Tryz.prog 130 #[.int .u8 n] w fun e w' => e = .returned (.bool (letN n)) ∧ w = w' := by
  unfold letN
  by_cases h1 : n = 95
  · subst h1
    go_enter Tryz.func130, Tryz.ntmps130
    go_wp2
    go_ret
    exact ⟨by simp, rfl⟩
  · have h1' : (n == 95) = false := by simpa using h1
    by_cases h2 : 97 ≤ n
    · by_cases h3 : n ≤ 122
      · go_enter Tryz.func130, Tryz.ntmps130
        go_wp2
        go_ret
        exact ⟨by simp [h1, h2, h3], rfl⟩
      · have h4 : 65 ≤ n := by omega
        have h5 : ¬ n ≤ 90 := by omega
        go_enter Tryz.func130, Tryz.ntmps130
        go_wp2
        go_ret
        exact ⟨by simp [h3, h5], rfl⟩
    · by_cases h4 : 65 ≤ n
      · by_cases h5 : n ≤ 90 <;>
        · go_enter Tryz.func130, Tryz.ntmps130
          go_wp2
          go_ret
          exact ⟨by simp [h5] <;> omega, rfl⟩
      · go_enter Tryz.func130, Tryz.ntmps130
        go_wp2
        go_ret
        exact ⟨by simp [] <;> omega, rfl⟩
theorem digit_any (n : Int) (w : World) : Calls Tryz.prog 126 #[.int .u8 n] w fun e w' => e = .returned (.bool (digN n)) ∧ w = w' := by
  unfold digN
  by_cases h2 : 48 ≤ n
  · by_cases h3 : n ≤ 57 <;>
    · go_enter Tryz.func126, Tryz.ntmps126
      go_wp2
      go_ret
      exact ⟨by simp [h2, h3], rfl⟩
  · go_enter Tryz.func126, Tryz.ntmps126
    go_wp2
    go_ret
    exact ⟨by simp; omega, rfl⟩
theorem other_any (n : Int) (w : World) : Calls Tryz.prog 129 #[.int .u8 n] w fun e w' => e = .returned (.bool (!letN n && !digN n)) ∧ w = w' := by
  obtain ⟨a, ha⟩ : ∃ a, letN n = a := ⟨_, rfl⟩
  obtain ⟨b, hb⟩ : ∃ b, digN n = b := ⟨_, rfl⟩
  have HA := Lib.hid ha
  have HB := Lib.hid hb
  rw [ha, hb]
  clear ha hb
  cases a <;>
  · go_enter Tryz.func129, Tryz.ntmps129
    go_wp2_with (first | (go_at_call 130; refine (letter_any _ _).mono ?_; rw [HA.out]; rintro e w' ⟨rfl, rfl⟩) | (go_at_call 126; refine (digit_any _ _).mono ?_; rw [HB.out]; rintro e w' ⟨rfl, rfl⟩))
    go_ret
    exact ⟨by simp, rfl⟩

theorem contains_any (s sub : List UInt8) (w : World) (h : Lx w) (hs : s.length < 4294967281) : Calls Tryz.prog 161 #[.string ⟨⟨s⟩⟩, .string ⟨⟨sub⟩⟩] w fun e w' => e = .returned (.bool (Lib.contains s sub)) ∧ w' = w := by
  obtain ⟨m, hm⟩ := h.2
  exact Any.strings_Contains { Tryz.laysM144 with } ⟨⟨s⟩⟩ ⟨⟨sub⟩⟩ m w hs hm
theorem contains_at {s sub : ByteArray} (S T : List UInt8) (w : World) (h : Lx w) (hs : s.data.toList = S) (ht : sub.data.toList = T) (hl : S.length < 4294967281) : Calls Tryz.prog 161 #[.string s, .string sub] w fun e w' => e = .returned (.bool (Lib.contains S T)) ∧ w' = w := by
  subst hs ht
  obtain ⟨m, hm⟩ := h.2
  exact Any.strings_Contains { Tryz.laysM144 with } s sub m w hl hm
theorem keyword_any (l : List UInt8) (w : World) (h : Lx w) (hl : l.length ≤ 1048576) : Calls Tryz.prog 127 #[.string ⟨⟨l⟩⟩] w fun e w' => e = .returned (.bool (kwB l)) ∧ w' = w := by
  have HX := Lib.hid h
  clear h
  rw [← kw_is]
  by_cases h0 : l = []
  · subst h0
    go_enter Tryz.func127, Tryz.ntmps127
    go_wp2_with fail
    go_ret
    exact ⟨by simp, rfl⟩
  have he : l.isEmpty = false := by cases l with
    | nil => exact absurd rfl h0
    | cons => rfl
  have H0 := Lib.hid h0
  clear h0
  cases h1 : Lib.contains l [32]
  · have H1 := Lib.hid h1
    clear h1
    cases h2 : Lib.contains kwText (32 :: (l ++ [32])) <;>
    · have H2 := Lib.hid h2
      clear h2
      go_enter Tryz.func127, Tryz.ntmps127
      go_wp2_with fail
      refine (contains_any l [32] w HX.out (by omega)).mono ?_
      rw [H1.out]
      rintro e w' ⟨rfl, rfl⟩
      go_wp2_with fail
      refine (contains_at kwText (32 :: (l ++ [32])) w' HX.out (by kernel_rfl) (by simp) (of_decide_eq_true (by kernel_rfl))).mono ?_
      rw [H2.out]
      rintro e w'' ⟨rfl, rfl⟩
      go_wp2_with fail
      go_ret
      have h0 := H0.out
      exact ⟨by simp [h0], rfl⟩
  · have H1 := Lib.hid h1
    clear h1
    have hr : (decide (l ≠ []) && (!true && Lib.contains kwText (32 :: (l ++ [32])))) = false := by simp
    rw [hr]
    clear hr
    go_enter Tryz.func127, Tryz.ntmps127
    go_wp2_with fail
    refine (contains_any l [32] w HX.out (by omega)).mono ?_
    rw [H1.out]
    rintro e w' ⟨rfl, rfl⟩
    go_wp2_with fail
    go_ret
    exact ⟨rfl, rfl⟩

/-! ### slices.ContainsFunc at bytes, lexer.Name -/
def ByteAt (w : World) (b p : Nat) (x : UInt8) : Prop := w.cell? ⟨b, p, none⟩ = some (.int .u8 (x.toNat : Int))
def badB (c : UInt8) : Bool := !wordB c
theorem any_next {l : List UInt8} {k : Nat} {x : UInt8} (hx : l[k]? = some x) (h : (l.take k).any badB = false) (hb : badB x = false) : (l.take (k + 1)).any badB = false := by
  rw [take_snoc' hx, List.any_append, h, List.any_cons, List.any_nil, hb]; rfl
theorem any_hit {l : List UInt8} {k : Nat} {x : UInt8} (hx : l[k]? = some x) (hb : badB x = true) : l.any badB = true := List.any_eq_true.2 ⟨x, List.mem_of_getElem? hx, hb⟩
set_option maxRecDepth 100000 in
set_option maxHeartbeats 1000000 in
theorem indexB_any (l : List UInt8) (b c : Nat) (w : World) (hl : ∀ k x, l[k]? = some x → ByteAt w b k x) (hn : l.length ≤ 1048576) :
    Calls Tryz.prog 162 #[.slice (some ⟨b, 0, none⟩) l.length c, .func (.func 129) #[] #[]] w fun e w' => (∃ r : Int, e = .returned (.int .i64 r) ∧ (0 ≤ r ↔ l.any badB = true)) ∧ w = w' := by
  have HL := Lib.hid hl
  clear hl
  go_enter Tryz.func162, Tryz.ntmps162
  go_wp2_with fail
  go_loopw [8] (fun i wr => wr = w ∧ ∃ k : Nat, k ≤ l.length ∧ i = .int .i64 k ∧ Hid ((l.take k).any badB = false)) (fun i _ => l.length - (intOf i).toNat)
  case atStart => exact ⟨rfl, 0, Nat.zero_le _, rfl, Lib.hid rfl⟩
  case round =>
    obtain ⟨rfl, k, hk, rfl, hi⟩ := hrel
    by_cases hlt : k < l.length
    · have hk' : (k : Int) < (l.length : Int) := by omega
      have c0 := HL.out k l[k] (List.getElem?_eq_getElem hlt)
      unfold ByteAt at c0
      have hget := Lib.hid (List.getElem?_eq_getElem hlt)
      obtain ⟨x, hx⟩ : ∃ x, x = l[k] := ⟨_, rfl⟩
      rw [← hx] at hget c0
      obtain ⟨n, hn0⟩ : ∃ n : Int, (x.toNat : Int) = n := ⟨_, rfl⟩
      rw [hn0] at c0
      have HP : Hid ((!letN n && !digN n) = badB x) := Lib.hid (by rw [← hn0, letN_is, digN_is]; unfold badB wordB; rw [Bool.not_or])
      clear hx hn0
      obtain ⟨p, hp⟩ : ∃ p, badB x = p := ⟨_, rfl⟩
      have HB := Lib.hid hp
      clear hp
      cases p
      · go_wp2_with (go_at_call 129; refine (other_any _ _).mono ?_; rw [HP.out, HB.out]; rintro e w' ⟨rfl, rfl⟩)
        go_roundw
        case rel => exact ⟨by trivial, k + 1, by omega, by go_num, Lib.hid (any_next hget.out hi.out HB.out)⟩
        case measure => simp [intOf]; omega
      · go_wp2_with (go_at_call 129; refine (other_any _ _).mono ?_; rw [HP.out, HB.out]; rintro e w' ⟨rfl, rfl⟩)
        go_ret
        exact ⟨⟨(k : Int), rfl, by rw [any_hit hget.out HB.out]; simp⟩, rfl⟩
    · have hk' : ¬ (k : Int) < (l.length : Int) := by omega
      go_wp2_with fail
      go_ret
      refine ⟨⟨-1, rfl, ?_⟩, rfl⟩
      have := hi.out
      rw [List.take_of_length_le (by omega), List.any_eq_false] at this
      constructor
      · intro h; exact absurd h (by decide)
      · intro h
        obtain ⟨x, hx, hb⟩ := h
        exact absurd hb (this x hx)
theorem containsB_any (l : List UInt8) (b c : Nat) (w : World) (hl : ∀ k x, l[k]? = some x → ByteAt w b k x) (hn : l.length ≤ 1048576) :
    Calls Tryz.prog 128 #[.slice (some ⟨b, 0, none⟩) l.length c, .func (.func 129) #[] #[]] w fun e w' => e = .returned (.bool (l.any badB)) ∧ w = w' := by
  have HL := Lib.hid hl
  clear hl
  go_enter Tryz.func128, Tryz.ntmps128
  go_wp2_with (go_at_call 162; refine (indexB_any l b c _ HL.out hn).mono ?_; rintro e w' ⟨⟨r, rfl, hr⟩, rfl⟩; have HR := Lib.hid hr; clear hr)
  go_ret
  have hr := HR.out
  refine ⟨?_, rfl⟩
  by_cases h : 0 ≤ r
  · rw [hr.1 h]; simp [h]
  · have : l.any badB = false := by rw [Bool.eq_false_iff]; exact fun e => h (hr.2 e)
    rw [this]; simp; omega
theorem conv_bytes (l : List UInt8) (W : World) : ∃ cap W', (convert 9 159 (.string ⟨⟨l⟩⟩)).run Tryz.prog W = .ok (.slice (some ⟨W.heap.size, 0, none⟩) l.length cap) W' ∧ (∀ k x, l[k]? = some x → ByteAt W' W.heap.size k x) ∧ Below W.heap.size W W' := by
  refine ⟨_, _, run_bytes_of_string (P := Tryz.prog) W 9 159 5 ⟨⟨l⟩⟩ Tryz.underlying9 Tryz.underlying159 Tryz.underlying5, fun k x hk => ?_, (Below.refl _ _).drew.alloc (Nat.le_refl _) _⟩
  have h := heap_alloc_new W.drew (.cells (bytesRow ⟨⟨l⟩⟩ (grownCap W (ByteArray.size ⟨⟨l⟩⟩) 0 5)) 5 ((bytesRow ⟨⟨l⟩⟩ (grownCap W (ByteArray.size ⟨⟨l⟩⟩) 0 5)).size, (bytesRow ⟨⟨l⟩⟩ (grownCap W (ByteArray.size ⟨⟨l⟩⟩) 0 5)).size + 1))
  unfold ByteAt World.cell?
  rw [show (W.drew).heap.size = W.heap.size from rfl] at h
  rw [h]
  obtain ⟨hlt, rfl⟩ := List.getElem?_eq_some_iff.1 hk
  exact bytesRow_at ⟨⟨l⟩⟩ _ k hlt
theorem name_8 {l : List UInt8} (h : l = [] ∨ 24 < l.length ∨ headL l = false ∨ l.any badB = true ∨ kwB l = true) : nameE l = 8 := by
  unfold nameE
  rw [if_neg]
  rintro ⟨h1, h2, h3, h4, h5⟩
  rcases h with h | h | h | h | h
  · exact h1 h
  · omega
  · rw [h] at h3; cases h3
  · rw [List.any_eq_true] at h
    obtain ⟨x, hx, hb⟩ := h
    have := List.all_eq_true.1 h4 x hx
    unfold badB at hb
    rw [this] at hb; cases hb
  · rw [h] at h5; cases h5
theorem name_0 {l : List UInt8} (h1 : l ≠ []) (h2 : l.length ≤ 24) (h3 : headL l = true) (h4 : l.any badB = false) (h5 : kwB l = false) : nameE l = 0 := by
  unfold nameE
  rw [if_pos]
  refine ⟨h1, h2, h3, ?_, h5⟩
  rw [List.all_eq_true]
  intro x hx
  cases hw : wordB x with
  | true => rfl
  | false =>
    rw [List.any_eq_false] at h4
    exact absurd (by unfold badB; rw [hw]; rfl) (h4 x hx)
theorem head_bad {c : UInt8} {s : List UInt8} (h : digB c = true) : headL (c :: s) = false := by
  show letB c = false
  cases hl : letB c
  · rfl
  · rw [letB_digB c hl] at h; cases h
theorem head_good {c : UInt8} {s : List UInt8} (h : digB c = false) (ha : (c :: s).any badB = false) : headL (c :: s) = true := by
  have : wordB c = true := by
    cases hw : wordB c with
    | true => rfl
    | false => rw [List.any_eq_false] at ha; exact absurd (by unfold badB; rw [hw]; rfl) (ha c (List.mem_cons_self ..))
  rw [head_is this, h]; rfl
set_option maxRecDepth 100000 in
set_option maxHeartbeats 1000000 in
theorem name_any (l : List UInt8) (w : World) (h : Lx w) (hlen : l.length ≤ 1048576) : Calls Tryz.prog 93 #[.string ⟨⟨l⟩⟩] w fun e w' => e = .returned (.int .i64 (nameE l)) ∧ Below w.heap.size w w' := by
  have HX := Lib.hid h
  clear h
  obtain ⟨R, hR⟩ : ∃ R, nameE l = R := ⟨_, rfl⟩
  have HR := Lib.hid hR
  rw [hR]
  clear hR
  cases l with
  | nil =>
    go_enter Tryz.func93, Tryz.ntmps93
    go_wp2_with fail
    go_ret
    exact ⟨ret_i ((name_8 (.inl rfl)).symm.trans HR.out), Below.refl _ _⟩
  | cons c l =>
    have he : (c :: l).isEmpty = false := rfl
    by_cases hm : 24 < (c :: l).length
    · have hm' : (24 : Int) < (((c :: l).length : Nat) : Int) := by omega
      simp only [List.length_cons] at hm hm' hlen
      go_enter Tryz.func93, Tryz.ntmps93
      go_wp2_with fail
      go_ret
      exact ⟨ret_i ((name_8 (.inr (.inl (by simpa using hm)))).symm.trans HR.out), Below.refl _ _⟩
    · have hm' : ¬ (24 : Int) < (((c :: l).length : Nat) : Int) := by omega
      have HM := Lib.hid hm
      simp only [List.length_cons] at hm hlen
      replace hm' : ¬ (24 : Int) < (l.length : Int) + 1 := by omega
      cases hd : digB c with
      | true =>
        have HD : Hid (digN (c.toNat : Int) = true) := Lib.hid (by rw [digN_is]; exact hd)
        have HE := Lib.hid (name_8 (.inr (.inr (.inl (head_bad (s := l) hd)))))
        clear hd
        go_enter Tryz.func93, Tryz.ntmps93
        go_wp2_with (go_at_call 126; refine (digit_any (c.toNat : Int) _).mono ?_; rw [HD.out]; rintro e w' ⟨rfl, rfl⟩)
        go_ret
        exact ⟨ret_i (HE.out.symm.trans HR.out), Below.refl _ _⟩
      | false =>
        have HD : Hid (digN (c.toNat : Int) = false) := Lib.hid (by rw [digN_is]; exact hd)
        have HDB := Lib.hid hd
        clear hd
        cases hkw : kwB (c :: l) with
        | true =>
          have HK := Lib.hid hkw
          clear hkw
          go_enter Tryz.func93, Tryz.ntmps93
          go_wp2_with (first | (go_at_call 126; refine (digit_any (c.toNat : Int) _).mono ?_; rw [HD.out]; rintro e w' ⟨rfl, rfl⟩) | (go_at_call 127; refine (keyword_any (c :: l) _ HX.out (by simp; omega)).mono ?_; rw [HK.out]; rintro e w' ⟨rfl, rfl⟩))
          go_ret
          exact ⟨ret_i ((name_8 (.inr (.inr (.inr (.inr HK.out))))).symm.trans HR.out), Below.refl _ _⟩
        | false =>
          have HK := Lib.hid hkw
          clear hkw
          obtain ⟨p, hab⟩ : ∃ p, (c :: l).any badB = p := ⟨_, rfl⟩
          have HA := Lib.hid hab
          clear hab
          obtain ⟨cap, W', hcv, hby, hbw⟩ := conv_bytes (c :: l) w
          have HBY := Lib.hid hby
          have HBW := Lib.hid hbw
          simp only [List.length_cons] at hcv
          clear hby hbw
          cases p with
          | true =>
            go_enter Tryz.func93, Tryz.ntmps93
            go_wp2_with (first | (go_at_call 126; refine (digit_any (c.toNat : Int) _).mono ?_; rw [HD.out]; rintro e w' ⟨rfl, rfl⟩) | (go_at_call 127; refine (keyword_any (c :: l) _ HX.out (by simp; omega)).mono ?_; rw [HK.out]; rintro e w' ⟨rfl, rfl⟩) | (go_at_call 128; refine (containsB_any (c :: l) _ cap _ HBY.out (by simp; omega)).mono ?_; rw [HA.out]; rintro e w2 ⟨rfl, rfl⟩))
            go_ret
            exact ⟨ret_i ((name_8 (.inr (.inr (.inr (.inl HA.out))))).symm.trans HR.out), HBW.out⟩
          | false =>
            go_enter Tryz.func93, Tryz.ntmps93
            go_wp2_with (first | (go_at_call 126; refine (digit_any (c.toNat : Int) _).mono ?_; rw [HD.out]; rintro e w' ⟨rfl, rfl⟩) | (go_at_call 127; refine (keyword_any (c :: l) _ HX.out (by simp; omega)).mono ?_; rw [HK.out]; rintro e w' ⟨rfl, rfl⟩) | (go_at_call 128; refine (containsB_any (c :: l) _ cap _ HBY.out (by simp; omega)).mono ?_; rw [HA.out]; rintro e w2 ⟨rfl, rfl⟩))
            go_ret
            exact ⟨ret_i ((name_0 (by simp) (by have := HM.out; omega) (head_good HDB.out HA.out) HA.out HK.out).symm.trans HR.out), HBW.out⟩
end Go.Proofs.YtclpglgigpjfoaaGreatDoor
