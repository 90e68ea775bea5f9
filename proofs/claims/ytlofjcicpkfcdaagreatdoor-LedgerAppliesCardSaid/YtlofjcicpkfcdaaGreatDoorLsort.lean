/- slices.SortFunc at entries. -/
import Derived.Test.YtlofjcicpkfcdaaGreatDoorLdel
import Derived.Test.YtlofjcicpkfcdaaGreatDoorLnew
import Derived.Test.YtlofjcicpkfcdaaGreatDoorShelfS
namespace Go.Proofs.YtlofjcicpkfcdaaGreatDoor
open Go.RowKit
open Go.Sort (SWO PermIn SortedIn HoldsK grow)

theorem pc_swo {α : Type} {c : α → α → Int} (h : PC c) : SWO (ltOf c) := by
  refine ⟨fun x => ?_, fun x y z h1 h2 => ?_, fun x y z h1 h2 => ?_⟩
  · unfold ltOf; rw [h.refl]; rfl
  · unfold ltOf at *
    simp only [decide_eq_true_eq] at *
    exact h.lt x y z h1 h2
  · unfold ltOf at *
    simp only [decide_eq_false_iff_not] at *
    intro h3
    have a1 : c y x ≤ 0 := by have := h.anti x y; omega
    have a2 : c z y ≤ 0 := by have := h.anti y z; omega
    have h4 : c z x ≤ 0 := by
      rcases Int.lt_or_eq_of_le a2 with h5 | h5
      · rcases Int.lt_or_eq_of_le a1 with h6 | h6
        · exact Int.le_of_lt (h.lt z y x h5 h6)
        · have := h.congr y x z h6; omega
      · have := h.cong z y x h5; omega
    have := h.anti x z
    omega
theorem gr_grow {w w' : World} (h : Gr w w') : ∃ q os, w' = grow (w.drewN q) os := by
  refine ⟨w'.drawn - w.drawn, w'.heap.extract w.heap.size w'.heap.size, ?_⟩
  have hd := h.drawn
  have hh : w.heap ++ w'.heap.extract w.heap.size w'.heap.size = w'.heap := by
    apply Array.ext_getElem?
    intro i
    rw [Array.getElem?_append]
    by_cases hi : i < w.heap.size
    · rw [if_pos hi, h.below.block i hi]
    · rw [if_neg hi, Array.getElem?_extract]
      by_cases h2 : i < w'.heap.size
      · rw [if_pos (by omega)]; congr 1; omega
      · rw [if_neg (by omega), Array.getElem?_eq_none (by omega)]
  unfold grow World.drewN
  cases w'
  simp only [World.mk.injEq] at *
  have h1 := h.below.tape
  have h2 := h.below.os
  have h3 := h.below.output
  simp only at h1 h2 h3 hd hh
  exact ⟨hh.symm, h1, by omega, h2, h3⟩
theorem sortW_block {α : Type} [Inhabited α] (enc : α → List Value) (k : Nat) (w : World) (g off m : Nat) (dk : Array α) (os : Array Obj) {b : Nat} (hb : b < w.heap.size) (hne : b ≠ g) : (sortWorldK enc k w g off m dk os).heap[b]? = w.heap[b]? := by
  unfold sortWorldK Go.Sort.putRowK Go.Sort.putRow Go.Sort.mapBlock grow Go.Sort.ahead
  simp only [Array.getElem?_append, Array.size_modify, hb, if_true, Array.getElem?_modify]
  rw [if_neg (by omega)]
theorem sortW_grown {α : Type} [Inhabited α] (enc : α → List Value) (k : Nat) (w : World) (g off m : Nat) (dk : Array α) (os : Array Obj) : w.grownBy (sortWorldK enc k w g off m dk os) (some g) :=
  ⟨rfl, rfl, rfl, by unfold sortWorldK Go.Sort.putRowK Go.Sort.putRow Go.Sort.mapBlock grow Go.Sort.ahead; simp, fun i hi hne => sortW_block enc k w g off m dk os hi (fun e => hne (by rw [e]))⟩

/-- an entry with a match that can be read in w apart from block g -/
abbrev SE (w : World) (g : Nat) : Type := { e : Ety × Value // EOk w g e }
instance seInh (w : World) (g : Nat) : Inhabited (SE w g) := ⟨⟨(⟨0, [], 0⟩, .slice none 0 0), ⟨none, 0, rfl, Nat.le_refl _, Nat.zero_le _, by simp⟩, by simp [Value.ownBlock]⟩⟩
def seEnc {w : World} {g : Nat} (x : SE w g) : List Value := [.int .i64 x.1.1.q, x.1.2, .int .i64 x.1.1.n]
def seC {w : World} {g : Nat} (x y : SE w g) : Int := entC x.1.1 y.1.1
theorem seC_pc {w : World} {g : Nat} : PC (@seC w g) := entC_pc.of fun x : SE w g => x.1.1
theorem se_list {w : World} {g : Nat} : ∀ es : List (Ety × Value), (∀ e ∈ es, EOk w g e) → ∃ dl : List (SE w g), dl.map (fun x => x.1) = es
  | [], _ => ⟨[], rfl⟩
  | e :: es, h => by
    obtain ⟨dl, hd⟩ := se_list es fun x hx => h x (List.mem_cons_of_mem _ hx)
    exact ⟨⟨e, h e (List.mem_cons_self ..)⟩ :: dl, by rw [List.map_cons, hd]⟩
theorem enter_cmp (args : Array Value) (W : World) : (callFunc 33 args).run Tryz.prog W = .ok (.enter 33 args) W := enters_of Tryz.func33 (by kernel_rfl) rfl args W

theorem sortEnts_any (es : List (Ety × Value)) (g cap : Nat) (spare : List Value) (w : World) (hg : w.heap[g]? = some (.cells (cellsE es ++ spare).toArray 45 (0, 0))) (hc : es.length ≤ cap) (hm : cap ≤ maxLen) (hsz : es.length ≤ 1048576) (he : ∀ e ∈ es, EOk w g e) :
    Calls Tryz.prog 48 #[.slice (some ⟨g, 0, none⟩) es.length cap, .func (.func 33) #[] #[]] w fun e W => e = .returned (.tuple #[]) ∧ ∃ T : List Ety, T.Perm (es.map (·.1)) ∧ T.Pairwise (fun a b => ¬ entC b a < 0) ∧ IsEnts W (.slice (some ⟨g, 0, none⟩) es.length cap) T ∧ w.grownBy W (some g) ∧ ∀ B, B ≤ g → (∀ e ∈ es, ∀ b, e.2.ownBlock = some b → B ≤ b) → NewEnts B W (.slice (some ⟨g, 0, none⟩) es.length cap) T := by
  obtain ⟨dl, hdl⟩ := se_list es he
  have hdn : dl.length = es.length := by rw [← hdl, List.length_map]
  have hget : ∀ j, j < dl.length → ∃ x : SE w g, dl.toArray[j]! = x ∧ es[j]? = some x.1 := fun j hj => by
    refine ⟨dl[j], by simp [hj], ?_⟩
    rw [← hdl, List.getElem?_map, List.getElem?_eq_getElem hj]; rfl
  have hH : HoldsK seEnc 3 w g 0 dl.toArray := by
    intro t ht
    rw [Go.Sort.size_flatK] at ht
    rw [Go.Sort.get_flatK _ _ _ _ ht]
    simp only [List.size_toArray] at ht
    obtain ⟨x, hx, hex⟩ := hget (t / 3) (by omega)
    rw [hx, Nat.zero_add]
    obtain ⟨c0, c1, c2⟩ := cellsE_at hex spare
    refine ⟨?_, blk_frozen hg t⟩
    rw [blk_cell hg]
    have hr : t % 3 < 3 := Nat.mod_lt _ (by decide)
    have ht3 : t = t / 3 * 3 + t % 3 := by omega
    generalize t % 3 = r at hr ht3
    match r, hr with
    | 0, _ => rw [ht3]; exact c0
    | 1, _ => rw [ht3]; exact c1
    | 2, _ => rw [ht3]; exact c2
  have hcmp : CmpLays Tryz.prog 33 #[] seEnc 3 (@seC w g) g 0 dl.toArray.size w := by
    intro m os dk _ x y
    have hW := sortW_grown seEnc 3 w g 0 m dk os
    have hst : ∀ z : SE w g, IsBnds (sortWorldK seEnc 3 w g 0 m dk os) z.1.2 z.1.1.bs := fun z => sl_kept' z.2.1 fun b hb hv => hW.block b hb (fun e => z.2.2 (by rw [hv, e]))
    refine (lcompare_any x.1.1 y.1.1 x.1.2 y.1.2 _ (hst x) (hst y)).mono ?_
    rintro e w' ⟨rfl, h2⟩
    exact ⟨rfl, gr_grow h2⟩
  have hlen : dl.toArray.size = es.length := by simpa using hdn
  have h := AnyQ.slices_SortFunc Tryz.sortEnt 3 Tryz.isAgg45 Tryz.sizeOf45 seEnc (fun _ => rfl) (fun x v hv => by
      simp only [seEnc, List.mem_cons, List.not_mem_nil, or_false] at hv
      rcases hv with rfl | rfl | rfl
      · rfl
      · exact sl_oneCell x.2.1
      · rfl) (@seC w g) (pc_swo seC_pc) 33 #[] g 0 cap dl.toArray w enter_cmp hcmp hH (blk_lt hg) (by rw [hlen]; omega)
  change Calls Tryz.prog 48 _ _ _ at h
  rw [hlen] at h
  refine h.mono ?_
  rintro e W ⟨rfl, d', n, os, ⟨hs, _, hp⟩, hso, rfl⟩
  rw [hlen] at hs
  have hex : ∀ d : Array (SE w g), d.size = es.length → (d.extract 0 es.length).toList = d.toList := fun d hd => by rw [← hd]; simp
  rw [hex d' hs, hex dl.toArray hlen] at hp
  have hHd : HoldsK seEnc 3 (sortWorldK seEnc 3 w g 0 n d' os) g 0 d' := holdsK_sortWorldK_c seEnc 3 w g 0 dl.toArray d' n os hH (blk_lt hg) (by rw [hs, hlen])
  have hW := sortW_grown seEnc 3 w g 0 n d' os
  have hnew : ∀ B, B ≤ g → (∀ e ∈ es, ∀ b, e.2.ownBlock = some b → B ≤ b) → NewEnts B (sortWorldK seEnc 3 w g 0 n d' os) (.slice (some ⟨g, 0, none⟩) es.length cap) (d'.toList.map (fun x => x.1.1)) := by
    intro B hB hBe
    refine ⟨_, cap, by rw [List.length_map, Array.length_toList (xs := d'), hs], by rw [List.length_map, Array.length_toList (xs := d'), hs]; exact hc, hm, fun k x hx => ⟨g, 0, rfl, hB, ?_⟩⟩
    rw [List.getElem?_map] at hx
    obtain ⟨z, h1, rfl⟩ := Option.map_eq_some_iff.1 hx
    have hk : k < d'.size := by have := (List.getElem?_eq_some_iff.1 h1).1; simpa using this
    have hz : d'[k]! = z := by
      rw [getElem!_pos d' k hk]
      have := (List.getElem?_eq_some_iff.1 h1).2
      simpa using this
    have hze : z.1 ∈ es := by
      have h3 : z ∈ dl.toArray.toList := hp.mem_iff.1 (List.mem_of_getElem? h1)
      rw [← hdl]
      exact List.mem_map.2 ⟨z, h3, rfl⟩
    have q0 := (hHd.cell (c := 0) hk (by decide)).1
    have q1 := (hHd.cell (c := 1) hk (by decide)).1
    have q2 := (hHd.cell (c := 2) hk (by decide)).1
    rw [hz] at q0 q1 q2
    exact ⟨z.1.2, sl_kept' z.2.1 (fun b hb hv => hW.block b hb (fun e => z.2.2 (by rw [hv, e]))), hBe z.1 hze, q0, q1, q2⟩
  refine ⟨rfl, d'.toList.map (fun x => x.1.1), ?_, ?_, (hnew 0 (Nat.zero_le _) fun _ _ _ _ => Nat.zero_le _).is, hW, hnew⟩
  · have h1 := hp.map (fun x : SE w g => x.1.1)
    have h2 : dl.toArray.toList.map (fun x : SE w g => x.1.1) = es.map (·.1) := by rw [← hdl, List.map_map]; rfl
    rwa [h2] at h1
  · rw [List.pairwise_map, List.pairwise_iff_getElem]
    intro i j hi hj hij
    have := hso i j (Nat.zero_le _) hij (by rw [← hs]; simpa using hj)
    simp only [Array.length_toList] at hi hj
    rw [getElem!_pos d' i hi, getElem!_pos d' j hj] at this
    unfold ltOf seC at this
    simp only [Array.getElem_toList]
    simpa only [decide_eq_false_iff_not] using this
end Go.Proofs.YtlofjcicpkfcdaaGreatDoor
