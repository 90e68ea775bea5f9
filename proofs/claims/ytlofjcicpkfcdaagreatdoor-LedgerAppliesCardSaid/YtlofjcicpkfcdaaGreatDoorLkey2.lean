/- ledger.key: the text of a query and a match. -/
import Derived.Test.YtlofjcicpkfcdaaGreatDoorLkey
import Derived.Test.YtlofjcicpkfcdaaGreatDoorLled
import Derived.Test.YtlofjcicpkfcdaaGreatDoorShelfA
import Derived.OwnWalk
namespace Go.Proofs.YtlofjcicpkfcdaaGreatDoor
open Go.RowKit

/-- the library's table of powers of ten lies as its text lays it -/
def Tab (w : World) : Prop := Lib.TabIs Tryz.prog w "internal/strconv.uint64pow10" .u64 Lib.pow10Tab
theorem Tab.stays {w w' : World} (h : Tab w) (hb : Below w.heap.size w w') : Tab w' := Lib.tabBelow_of_tabIs h w' hb
theorem info_u8 : (Tryz.prog.info? 5).map (fun i => (i.zero, i.size, i.bytes)) = some (some (.int .u8 0), 1, 1) := by kernel_rfl
theorem keyT_take {q : Int} {l : List Bnd} {k : Nat} {x : Bnd} (h : l[k]? = some x) : keyT q (l.take (k + 1)) = keyT q (l.take k) ++ numsT [x.v, x.t, x.s, x.n] := by
  unfold keyT
  rw [take_snoc' h, flatB_app, numsT_app, List.append_assoc]
  rfl
theorem numsT_len {l : List Int} (h : ∀ n ∈ l, -9223372036854775808 ≤ n ∧ n ≤ 9223372036854775807) : (numsT l).length ≤ 21 * l.length := by
  induction l with
  | nil => simp [numsT]
  | cons n l ih =>
    have h1 := itoa_len n (h n (List.mem_cons_self ..)).1 (h n (List.mem_cons_self ..)).2
    have h2 := ih fun m hm => h m (List.mem_cons_of_mem _ hm)
    simp only [numsT, List.length_cons, List.length_append]
    omega
theorem kept_other {t : TypeId} {w w' : World} (h : Lib.OthersKept 5 none w w') {g : Nat} {cs : Array Value} (hg : w.heap[g]? = some (.cells cs t (0, 0))) (ht : t ≠ 5) : w'.heap[g]? = some (.cells cs t (0, 0)) :=
  h g _ hg (by simp) (fun c fz e => by injection e with _ e2 _; exact ht e2)

set_option maxRecDepth 100000 in
set_option maxHeartbeats 2000000 in
theorem key_any (q : Int) (l : List Bnd) (v : Value) (w : World) (hl : IsBnds w v l) (htab : Tab w) (hq : qOk q = true) (hok : ∀ b ∈ l, bndOk b = true) (hn : l.length ≤ 4096) :
    Calls Tryz.prog 45 #[.int .i64 q, matV v] w fun e w' => e = .returned (.string ⟨(keyT q l).toArray⟩) ∧ Below w.heap.size w w' := by
  unfold matV
  obtain ⟨A, c, rfl, h1, h2, hat⟩ := hl
  have HL := Lib.hid hat
  have HT := Lib.hid (Lib.tabBelow_of_tabIs htab)
  have HOK := Lib.hid hok
  have hq' : 0 ≤ q ∧ q < 16 := by simpa [qOk] using hq
  clear hat h1 h2 htab hok hq
  go_enter Tryz.func45, Tryz.ntmps45
  obtain ⟨iu, hi0, hz0, hz1, hz2⟩ := info_parts info_u8
  go_wp2_with (go_at_call 62; refine (Tryz.strconv_AppendInt_10 w.heap.size 0 q (by omega) (by omega) (.slice none 0 0) [] _ ⟨by simp, .inl ⟨rfl, rfl⟩⟩ (by simp) (by omega) (HT.out.on (by repeat (first | exact Below.refl _ _ | assumption | refine Below.drew ?_ | refine bel_al ?_ _ | refine bel_set ?_ (by omega) _ | refine bel_tr ?_ (by assumption))))).mono ?_; rintro _ w1 ⟨v1, rfl, ho1, hb1, hk1⟩; have hbx := kept_other hk1 (heap_alloc_new w _) (by decide); have x0 : w1.cell? ⟨w.heap.size, 0, none⟩ = some (.slice A l.length c) := (by simp [World.cell?, hbx]); have hbw1 : Below w.heap.size w w1 := (bel_one w _).trans hb1; simp only [List.nil_append, Nat.zero_add] at ho1; have HO1 := Lib.hid ho1; clear ho1 hb1 hk1 hbx)
  go_loopw [5, 15] (fun out i wr => ∃ k : Nat, k ≤ l.length ∧ i = .int .i64 k ∧ Hid (wr.ownsRow w.heap.size 5 1 out (keyT q (l.take k)).length (Lib.byteCells (keyT q (l.take k))) ∧ (keyT q (l.take k)).length ≤ 20 + 84 * k ∧ Below w.heap.size w wr)) (fun _ i _ => l.length - (intOf i).toNat)
  case atStart =>
    refine ⟨0, Nat.zero_le _, rfl, Lib.hid ⟨?_, ?_, hbw1⟩⟩
    · have := HO1.out
      simpa [keyT, flatB, numsT] using this
    · have := itoa_len q (by omega) (by omega)
      simpa [keyT, flatB, numsT] using this
  case round =>
    obtain ⟨k, hk, rfl, hI⟩ := hrel
    have hbr := hI.out.2.2
    by_cases hlt : k < l.length
    · have hk' : (k : Int) < (l.length : Int) := by omega
      obtain ⟨b, o, rfl, c0, c1, c2, c3⟩ := HL.out k l[k] (List.getElem?_eq_getElem hlt)
      replace c0 := cell_stays hbr c0
      replace c1 := cell_stays hbr c1
      replace c2 := cell_stays hbr c2
      replace c3 := cell_stays hbr c3
      have hget := Lib.hid (List.getElem?_eq_getElem hlt)
      have hxok := HOK.out l[k] (List.getElem_mem hlt)
      obtain ⟨x, hx⟩ : ∃ x, x = l[k] := ⟨_, rfl⟩
      rw [← hx] at hget c0 c1 c2 c3 hxok
      clear hx
      have HXR : Hid (∀ n ∈ [x.v, x.t, x.s, x.n], -9223372036854775808 ≤ n ∧ n ≤ 9223372036854775807) := Lib.hid (by
        simp only [bndOk, plB, inI, Bool.and_eq_true, decide_eq_true_eq] at hxok
        intro n hn
        simp only [List.mem_cons, List.not_mem_nil, or_false] at hn
        rcases hn with rfl | rfl | rfl | rfl <;> omega)
      clear hxok
      go_wp2_with fail
      refine wp_gen fun w5 e5 => ?_
      have hb5 : Below wr.heap.size wr w5 := by rw [e5]; exact (by repeat (first | exact Below.refl _ _ | assumption | refine Below.drew ?_ | refine bel_al ?_ _ | refine bel_set ?_ (by omega) _ | refine bel_tr ?_ (by assumption)))
      have hnum : w5.heap[wr.heap.size + 1]? = some (.cells [Value.int .i64 x.v, .int .i64 x.t, .int .i64 x.s, .int .i64 x.n].toArray 3 (0, 0)) := by rw [e5]; exact heap_new' _ _ _ (by simp)
      obtain ⟨G, hG⟩ : ∃ G, wr.heap.size + 1 = G := ⟨_, rfl⟩
      rw [hG] at hnum ⊢
      have HN := Lib.hid hnum
      have HB5 := Lib.hid hb5
      have hs5 : w.heap.size < G := by have := hbr.size; omega
      clear e5 hnum hb5 c0 c1 c2 c3 hG
      go_loopw [5, 32] (fun out2 i2 wq => ∃ j : Nat, j ≤ 4 ∧ i2 = .int .i64 j ∧ Hid (wq.ownsRow w.heap.size 5 1 out2 (keyT q (l.take k) ++ numsT ([x.v, x.t, x.s, x.n].take j)).length (Lib.byteCells (keyT q (l.take k) ++ numsT ([x.v, x.t, x.s, x.n].take j))) ∧ Below w.heap.size w wq ∧ wq.heap[G]? = some (.cells [Value.int .i64 x.v, .int .i64 x.t, .int .i64 x.s, .int .i64 x.n].toArray 3 (0, 0)))) (fun _ i2 _ => 4 - (intOf i2).toNat)
      case atStart =>
        refine ⟨0, by omega, rfl, Lib.hid ⟨?_, bel_tr hbr HB5.out, HN.out⟩⟩
        have := ownsRow_below hI.out.1 HB5.out
        simpa [numsT] using this
      case round =>
        obtain ⟨j, hj, rfl, hJ⟩ := hrel
        by_cases hj4 : j < 4
        · have hj' : (j : Int) < 4 := by omega
          obtain ⟨n0, hn0⟩ : ∃ n0, [x.v, x.t, x.s, x.n][j]? = some n0 := ⟨_, List.getElem?_eq_getElem (by simpa using hj4)⟩
          have r0 : wr.cell? ⟨G, j, none⟩ = some (.int .i64 n0) := by
            rw [blk_cell hJ.out.2.2]
            have := congrArg (Option.map (Value.int .i64)) hn0
            rw [← List.getElem?_map] at this
            exact this
          have hnr := HXR.out n0 (List.mem_of_getElem? hn0)
          have HN0 := Lib.hid hn0
          obtain ⟨T, hT⟩ : ∃ T, keyT q (l.take k) ++ numsT ([x.v, x.t, x.s, x.n].take j) = T := ⟨_, rfl⟩
          have hTl : T.length ≤ 20 + 84 * k + 84 := by
            rw [← hT, List.length_append]
            have h1 := hI.out.2.1
            have h2 := numsT_len (l := [x.v, x.t, x.s, x.n].take j) (fun n hn => HXR.out n (List.mem_of_mem_take hn))
            rw [List.length_take] at h2
            simp only [List.length_cons, List.length_nil] at h2
            omega
          have hJ' := hJ.out
          rw [hT] at hJ'
          have HJ := Lib.hid hJ'
          have HTT := Lib.hid hT
          clear hJ' hJ hT hn0
          go_wp2_with (at_builtin; refine wpList_app _ rfl (.tmp 36) (.tmp 37) 98 rfl w.heap.size 5 iu _ 1 1 Tryz.underlying98 hi0 hz0 hz1 hz2 rfl (by decide) u5 T.length (Lib.byteCells T) rfl (ownsRow_below HJ.out.1 (bel_one _ _)) (some ⟨wr.heap.size, 0, none⟩) 1 1 [.int .u8 32] rfl (src_new wr [.int .u8 32] _ 1 1 rfl (by simp [Value.oneCell'])) (by unfold maxLen; omega) (by omega) (by have := HJ.out.2.1.size; simp; omega) ?_; intro v6 w6 hown6 hg6 hloc6)
          have hown0 := ownsRow_below HJ.out.1 (bel_one wr (.cells [Value.int .u8 32].toArray 5))
          have hb06 : Below w.heap.size (wr.alloc (.cells [Value.int .u8 32].toArray 5)) w6 := grown_below hg6 (by have := HJ.out.2.1.size; simp; omega) (fun g h => (ownsRow_lt hown0 h).1)
          have hbw6 : Below w.heap.size w w6 := (bel_al HJ.out.2.1 _).trans hb06
          have hG6 : w6.heap[G]? = some (.cells [Value.int .i64 x.v, .int .i64 x.t, .int .i64 x.s, .int .i64 x.n].toArray 3 (0, 0)) := by
            have h0 := (Below.heap_alloc wr (.cells [Value.int .u8 32].toArray 5) G (blk_lt HJ.out.2.2)).trans HJ.out.2.2
            rw [hg6.block G (by have := blk_lt HJ.out.2.2; simp; omega) ?_]
            · exact h0
            · intro e
              rcases hown0.2 with ⟨hv, _⟩ | ⟨g', cap', cur', hv, _, hh, _⟩
              · rw [hv] at e; simp [Value.ownBlock] at e
              · rw [hv] at e
                have : G = g' := by simpa [Value.ownBlock] using e
                subst this
                rw [h0] at hh
                injection hh with hh
                injection hh with _ h2 _
                exact absurd h2 (by decide)
          refine (Tryz.strconv_AppendInt_10 w.heap.size (T.length + 1) n0 hnr.1 hnr.2 _ _ _ hown6 hbw6.size (by omega) (HT.out.on hbw6)).mono ?_
          rintro _ w7 ⟨v7, rfl, ho7, hb7, hk7⟩
          have hG7 := kept_other hk7 hG6 (by decide)
          have hb07 := hbw6.trans hb7
          have HO7 := Lib.hid ho7
          have HG7 := Lib.hid hG7
          clear hG6 hg6 hown6 hown0 hloc6 hk7 ho7 hG7 hb06
          go_wp2_with fail
          go_roundw
          case rel =>
            refine ⟨j + 1, by omega, by go_num, Lib.hid ⟨?_, hb07, HG7.out⟩⟩
            have e1 : keyT q (l.take k) ++ numsT ([x.v, x.t, x.s, x.n].take (j + 1)) = T ++ 32 :: Lib.itoa n0 := by
              rw [take_snoc' HN0.out, numsT_app, ← List.append_assoc, HTT.out]
              simp [numsT]
            have e2 : Lib.byteCells (T ++ 32 :: Lib.itoa n0) = Lib.byteCells T ++ [Value.int .u8 32] ++ Lib.byteCells (Lib.itoa n0) := by
              rw [Lib.byteCells_append, List.append_assoc]; rfl
            rw [e1, e2]
            have e3 : (T ++ 32 :: Lib.itoa n0).length = T.length + 1 + (Lib.itoa n0).length := by simp; omega
            rw [e3]
            exact HO7.out
          case measure => simp [intOf]; omega
        · have hj' : ¬ (j : Int) < 4 := by omega
          have hje : j = 4 := by omega
          subst hje
          have HJ := Lib.hid hJ.out
          clear hJ
          go_wp2_with fail
          go_roundw
          case rel =>
            have e1 := keyT_take (q := q) hget.out
            have hlen : (keyT q (l.take (k + 1))).length ≤ 20 + 84 * (k + 1) := by
              rw [e1, List.length_append]
              have h1 := hI.out.2.1
              have h2 := numsT_len HXR.out
              simp only [List.length_cons, List.length_nil] at h2
              omega
            refine ⟨k + 1, by omega, by go_num, Lib.hid ⟨?_, hlen, HJ.out.2.1⟩⟩
            rw [e1]
            exact HJ.out.1
          case measure => simp [intOf]; omega
    · have hk' : ¬ (k : Int) < (l.length : Int) := by omega
      have hke : k = l.length := by omega
      have hI' := hI.out
      rw [hke, List.take_length] at hI'
      have HI := Lib.hid hI'
      clear hI hI' hke
      have hpos : 0 < (keyT q l).length := by
        unfold keyT
        rw [List.length_append]
        have : (Lib.itoa q).length ≠ 0 := fun h => by
          have h0 := List.eq_nil_of_length_eq_zero h
          unfold Lib.itoa at h0
          split at h0
          · simp at h0
          · exact dec_ne _ h0
        omega
      obtain ⟨g, cap, spare, rfl, -, hgh, -, -⟩ := own_form HI.out.1 hpos
      have hcv := run_convert_bytes_back (P := Tryz.prog) wr 98 9 5 ⟨g, 0, none⟩ cap (keyT q l) Tryz.underlying98 Tryz.underlying5 Tryz.underlying9 (fun j hj => by
        rw [addr_add, Nat.zero_add, blk_cell hgh, List.getElem?_append_left (by simpa [Lib.byteCells] using hj)]
        simp [Lib.byteCells, hj])
      clear hgh
      go_wp2_with fail
      go_ret
      exact ⟨rfl, HI.out.2.2⟩
end Go.Proofs.YtlofjcicpkfcdaaGreatDoor
