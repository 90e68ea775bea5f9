/- Collected by program (collect.py) out of my templates Lled Lidx Lled2 Lown Ldel Lnew Lsort Lkey Lkey2 Ltot1 Ltot2 Lled3 Lfun Lapp Lstand Ldiff Lrev Lcomp Lsortm Lstep Ldiff2 Lpl2 Ldiff3 Lsingle Lsame Lsame2 Lawake Lmsort Lof Lradd Lfew Lsmall Llaws Lrsum Lrput Lrsort: what the contracts pc_swo, gr_grow, msort_any, sortMats_any, rsameM_any lean on. -/
import Derived.Test.YtclpglgigpjfoaaGreatDoorQKcomp
import Derived.Test.YtclpglgigpjfoaaGreatDoorQShelfS
namespace Go.Proofs.YtclpglgigpjfoaaGreatDoor
section
open Go.RowKit
open Go.Sort (SWO PermIn SortedIn HoldsK grow)
theorem pc_swo {α : Type} {c : α → α → Int} (h : PC c) : SWO (ltOf c) := by
  refine ⟨fun x => ?_, fun x y z h1 h2 => ?_, fun x y z h1 h2 => ?_⟩
  · unfold ltOf; rw [h.refl]; rfl
  · unfold ltOf at *
    simp only [decide_eq_true_eq] at *
    exact h.lt x y z h1 h2
  · unfold ltOf at *
    simp only [decide_eq_false_iff_not] at *
    intro h3
    have a1 : c y x ≤ 0 := by have := h.anti x y; omega
    have a2 : c z y ≤ 0 := by have := h.anti y z; omega
    have h4 : c z x ≤ 0 := by
      rcases Int.lt_or_eq_of_le a2 with h5 | h5
      · rcases Int.lt_or_eq_of_le a1 with h6 | h6
        · exact Int.le_of_lt (h.lt z y x h5 h6)
        · have := h.congr y x z h6; omega
      · have := h.cong z y x h5; omega
    have := h.anti x z
    omega
theorem gr_grow {w w' : World} (h : Gr w w') : ∃ q os, w' = grow (w.drewN q) os := by
  refine ⟨w'.drawn - w.drawn, w'.heap.extract w.heap.size w'.heap.size, ?_⟩
  have hd := h.drawn
  have hh : w.heap ++ w'.heap.extract w.heap.size w'.heap.size = w'.heap := by
    apply Array.ext_getElem?
    intro i
    rw [Array.getElem?_append]
    by_cases hi : i < w.heap.size
    · rw [if_pos hi, h.below.block i hi]
    · rw [if_neg hi, Array.getElem?_extract]
      by_cases h2 : i < w'.heap.size
      · rw [if_pos (by omega)]; congr 1; omega
      · rw [if_neg (by omega), Array.getElem?_eq_none (by omega)]
  unfold grow World.drewN
  cases w'
  simp only [World.mk.injEq] at *
  have h1 := h.below.tape
  have h2 := h.below.os
  have h3 := h.below.output
  simp only at h1 h2 h3 hd hh
  exact ⟨hh.symm, h1, by omega, h2, h3⟩
theorem sortW_block {α : Type} [Inhabited α] (enc : α → List Value) (k : Nat) (w : World) (g off m : Nat) (dk : Array α) (os : Array Obj) {b : Nat} (hb : b < w.heap.size) (hne : b ≠ g) : (sortWorldK enc k w g off m dk os).heap[b]? = w.heap[b]? := by
  unfold sortWorldK Go.Sort.putRowK Go.Sort.putRow Go.Sort.mapBlock grow Go.Sort.ahead
  simp only [Array.getElem?_append, Array.size_modify, hb, if_true, Array.getElem?_modify]
  rw [if_neg (by omega)]
theorem sortW_grown {α : Type} [Inhabited α] (enc : α → List Value) (k : Nat) (w : World) (g off m : Nat) (dk : Array α) (os : Array Obj) : w.grownBy (sortWorldK enc k w g off m dk os) (some g) :=
  ⟨rfl, rfl, rfl, by unfold sortWorldK Go.Sort.putRowK Go.Sort.putRow Go.Sort.mapBlock grow Go.Sort.ahead; simp, fun i hi hne => sortW_block enc k w g off m dk os hi (fun e => hne (by rw [e]))⟩
end
section
open Go.RowKit
def MatRet (w : World) (r : List (List Bnd) × Int) (e : Ending) (W : World) : Prop := ∃ v, e = .returned (.tuple #[v, .int .i64 r.2]) ∧ IsMats W v r.1 ∧ Below w.heap.size w W
/-- a row of matches of the call's own, each with its bindings elsewhere -/
structure MW (B : Nat) (wr : World) (av : Value) (ms : List (List Bnd × Value)) : Prop where
  row : wr.ownsRow B 24 1 av ms.length (ms.map (·.2))
  bnds : ∀ e ∈ ms, IsBnds wr e.2 e.1 ∧ ∀ g, e.2.ownBlock = some g → B ≤ g ∧ g < wr.heap.size ∧ some g ≠ av.ownBlock
theorem MW.nil (B : Nat) (w : World) : MW B w (.slice none 0 0) [] := ⟨⟨by simp, .inl ⟨rfl, rfl⟩⟩, by simp⟩
theorem MW.grow {B : Nat} {wr w1 : World} {av : Value} {ms : List (List Bnd × Value)} (h : MW B wr av ms) (hb : Below wr.heap.size wr w1) : MW B w1 av ms :=
  ⟨ownsRow_below h.row hb, fun e he => ⟨(h.bnds e he).1.stays bndAt_stays hb, fun g hg => by have := (h.bnds e he).2 g hg; exact ⟨this.1, Nat.lt_of_lt_of_le this.2.1 hb.size, this.2.2⟩⟩⟩
theorem MW.app {B : Nat} {w6 w7 : World} {av v7 u : Value} {ms : List (List Bnd × Value)} {bs : List Bnd} {o : Obj} (h : MW B w6 av ms) (hu : IsBnds w6 u bs) (hub : ∀ g, u.ownBlock = some g → B ≤ g ∧ g < w6.heap.size ∧ some g ≠ av.ownBlock)
    (hown : w7.ownsRow B 24 1 v7 (ms.length + 1) (ms.map (·.2) ++ [u])) (hg : (w6.alloc o).grownBy w7 av.ownBlock) (hloc : v7.ownBlock = av.ownBlock ∨ v7.ownBlock = some (w6.alloc o).heap.size) :
    MW B w7 v7 (ms ++ [(bs, u)]) := by
  have hkeep : ∀ g, g < w6.heap.size → some g ≠ av.ownBlock → w7.heap[g]? = w6.heap[g]? := fun g h1 h2 => (hg.block g (by simp; omega) h2).trans (Below.heap_alloc w6 o g h1)
  have hsz : w6.heap.size < w7.heap.size := Nat.lt_of_lt_of_le (by simp) hg.size
  refine ⟨by simpa using hown, ?_⟩
  intro e he
  have h0 : IsBnds w6 e.2 e.1 ∧ ∀ g, e.2.ownBlock = some g → B ≤ g ∧ g < w6.heap.size ∧ some g ≠ av.ownBlock := by
    rcases List.mem_append.1 he with he | he
    · exact h.bnds e he
    · simp at he; subst he; exact ⟨hu, hub⟩
  refine ⟨sl_kept h0.1 fun g hg1 => hkeep g (h0.2 g hg1).2.1 (h0.2 g hg1).2.2, fun g hg1 => ?_⟩
  have h1 := h0.2 g hg1
  refine ⟨h1.1, by omega, ?_⟩
  rcases hloc with hl | hl
  · rw [hl]; exact h1.2.2
  · rw [hl]; simp; omega
end
section
open Go.RowKit Go.Shelf
theorem compT_len (l : List MV) : ∀ m, (compT l m).length ≤ m
  | 0 => by simp [compT]
  | m + 1 => by
    have := compT_len l m
    simp only [compT, List.length_append]
    split
    · split <;> simp <;> omega
    · simp; omega
theorem compT_mem (l : List MV) : ∀ m, ∀ e ∈ compT l m, e ∈ l
  | 0 => by simp [compT]
  | m + 1 => fun e he => by
    simp only [compT, List.mem_append] at he
    rcases he with he | he
    · exact compT_mem l m e he
    · split at he
      · next x hx =>
        split at he
        · simp at he; subst he; exact List.mem_of_getElem? hx
        · simp at he
      · simp at he
end
section
open Go.RowKit Go.Shelf
open Go.Sort (SWO PermIn SortedIn HoldsK grow)
abbrev SM (w : World) (g : Nat) : Type := { e : MV // MOk w g e }
instance smInh (w : World) (g : Nat) : Inhabited (SM w g) := ⟨⟨([], .slice none 0 0), ⟨none, 0, rfl, Nat.le_refl _, Nat.zero_le _, by simp⟩, by simp [Value.ownBlock]⟩⟩
def smEnc {w : World} {g : Nat} (x : SM w g) : List Value := [x.1.2]
def smC {w : World} {g : Nat} (x y : SM w g) : Int := bsC x.1.1 y.1.1
theorem smC_pc {w : World} {g : Nat} : PC (@smC w g) := bsC_pc.of fun x : SM w g => x.1.1
theorem sm_list {w : World} {g : Nat} : ∀ es : List MV, (∀ e ∈ es, MOk w g e) → ∃ dl : List (SM w g), dl.map (fun x => x.1) = es
  | [], _ => ⟨[], rfl⟩
  | e :: es, h => by
    obtain ⟨dl, hd⟩ := sm_list es fun x hx => h x (List.mem_cons_of_mem _ hx)
    exact ⟨⟨e, h e (List.mem_cons_self ..)⟩ :: dl, by rw [List.map_cons, hd]⟩
theorem enter_mcmp (args : Array Value) (W : World) : (callFunc 16 args).run Tryz.prog W = .ok (.enter 16 args) W := enters_of Tryz.func16 (by kernel_rfl) rfl args W
theorem sortW_self {α : Type} [Inhabited α] (enc : α → List Value) (k : Nat) (w : World) (g off m : Nat) (dk : Array α) (os : Array Obj) {cur : Array Value} {t : TypeId} {fr : Nat × Nat} (hg : w.heap[g]? = some (.cells cur t fr)) :
    ∃ cur' : Array Value, (sortWorldK enc k w g off m dk os).heap[g]? = some (.cells cur' t fr) ∧ cur'.size = cur.size := by
  have hl : g < w.heap.size := by
    rcases Nat.lt_or_ge g w.heap.size with h' | h'
    · exact h'
    · rw [Array.getElem?_eq_none h'] at hg; cases hg
  unfold sortWorldK Go.Sort.putRowK Go.Sort.putRow Go.Sort.mapBlock grow Go.Sort.ahead
  simp only [Array.getElem?_append, Array.size_modify, hl, if_true, Array.getElem?_modify, hg, Option.map_some, Go.Sort.onCells]
  exact ⟨_, rfl, by simp [Go.Sort.putCells]⟩
theorem sortMats_any (es : List MV) (g cap : Nat) (spare : List Value) (w : World) (hg : w.heap[g]? = some (.cells (es.map (·.2) ++ spare).toArray 24 (0, 0))) (hsz : es.length ≤ 1048576) (he : ∀ e ∈ es, MOk w g e) :
    Calls Tryz.prog 57 #[.slice (some ⟨g, 0, none⟩) es.length cap, .func (.func 16) #[] #[]] w fun e W => e = .returned (.tuple #[]) ∧ ∃ (es' : List MV) (spare' : List Value), es'.Perm es ∧ (es'.map (·.1)).Pairwise (fun a b => ¬ bsC b a < 0) ∧ W.heap[g]? = some (.cells (es'.map (·.2) ++ spare').toArray 24 (0, 0)) ∧ (es'.map (·.2) ++ spare').length = (es.map (·.2) ++ spare).length ∧ w.grownBy W (some g) := by
  obtain ⟨dl, hdl⟩ := sm_list es he
  have hdn : dl.length = es.length := by rw [← hdl, List.length_map]
  have hget : ∀ j, j < dl.length → ∃ x : SM w g, dl.toArray[j]! = x ∧ es[j]? = some x.1 := fun j hj => by
    refine ⟨dl[j], by simp [hj], ?_⟩
    rw [← hdl, List.getElem?_map, List.getElem?_eq_getElem hj]; rfl
  have hH : HoldsK smEnc 1 w g 0 dl.toArray := by
    intro t ht
    rw [Go.Sort.size_flatK] at ht
    rw [Go.Sort.get_flatK _ _ _ _ ht]
    simp only [List.size_toArray] at ht
    obtain ⟨x, hx, hex⟩ := hget (t / 1) (by omega)
    rw [hx, Nat.zero_add]
    have c0 := vals_at hex spare
    refine ⟨?_, blk_frozen hg t⟩
    rw [blk_cell hg]
    rw [Nat.div_one] at c0
    rw [Nat.mod_one]
    exact c0
  have hcmp : CmpLays Tryz.prog 16 #[] smEnc 1 (@smC w g) g 0 dl.toArray.size w := by
    intro m os dk _ x y
    have hW := sortW_grown smEnc 1 w g 0 m dk os
    have hst : ∀ z : SM w g, IsBnds (sortWorldK smEnc 1 w g 0 m dk os) z.1.2 z.1.1 := fun z => sl_kept' z.2.1 fun b hb hv => hW.block b hb (fun e => z.2.2 (by rw [hv, e]))
    refine (mcompare_any x.1.1 y.1.1 x.1.2 y.1.2 _ (hst x) (hst y)).mono ?_
    rintro e w' ⟨rfl, h2⟩
    exact ⟨rfl, gr_grow h2⟩
  have hlen : dl.toArray.size = es.length := by simpa using hdn
  have h := AnyQ.slices_SortFunc Tryz.sortMat 1 Tryz.isAgg24 Tryz.sizeOf24 smEnc (fun _ => rfl) (fun x v hv => by
      simp only [smEnc, List.mem_cons, List.not_mem_nil, or_false] at hv
      subst hv
      exact sl_oneCell x.2.1) (@smC w g) (pc_swo smC_pc) 16 #[] g 0 cap dl.toArray w enter_mcmp hcmp hH (blk_lt hg) (by rw [hlen]; omega)
  change Calls Tryz.prog 57 _ _ _ at h
  rw [hlen] at h
  refine h.mono ?_
  rintro e W ⟨rfl, d', n, os, ⟨hs, _, hp⟩, hso, rfl⟩
  rw [hlen] at hs
  have hex : ∀ d : Array (SM w g), d.size = es.length → (d.extract 0 es.length).toList = d.toList := fun d hd => by rw [← hd]; simp
  rw [hex d' hs, hex dl.toArray hlen] at hp
  have hHd : HoldsK smEnc 1 (sortWorldK smEnc 1 w g 0 n d' os) g 0 d' := holdsK_sortWorldK_c smEnc 1 w g 0 dl.toArray d' n os hH (blk_lt hg) (by rw [hs, hlen])
  have hW := sortW_grown smEnc 1 w g 0 n d' os
  obtain ⟨cur, hcur, hcs⟩ := sortW_self smEnc 1 w g 0 n d' os hg
  have hdl' : d'.toList.length = es.length := by rw [Array.length_toList, hs]
  have hcl : cur.toList.length = es.length + spare.length := by rw [Array.length_toList, hcs]; simp
  have htake : cur.toList.take es.length = d'.toList.map (fun x => x.1.2) := by
    refine List.ext_getElem? fun k => ?_
    by_cases hk : k < es.length
    · have hkd : k < d'.size := by omega
      have q0 := (hHd.cell (c := 0) hkd (by decide)).1
      rw [List.getElem?_take_of_lt hk, List.getElem?_map]
      have hz : d'[k]! = d'[k] := getElem!_pos d' k hkd
      rw [hz] at q0
      simp only [Nat.zero_add, Nat.mul_one, Nat.add_zero, World.cell?, hcur] at q0
      have e2 : d'.toList[k]? = some d'[k] := by rw [Array.getElem?_toList]; exact Array.getElem?_eq_getElem hkd
      rw [e2, Array.getElem?_toList]
      simpa [smEnc] using q0
    · rw [List.getElem?_eq_none (by rw [List.length_take]; omega), List.getElem?_eq_none (by rw [List.length_map]; omega)]
  refine ⟨rfl, d'.toList.map (fun x => x.1), cur.toList.drop es.length, ?_, ?_, ?_, ?_, hW⟩
  · have h1 := hp.map (fun x : SM w g => x.1)
    have h2 : dl.toArray.toList.map (fun x : SM w g => x.1) = es := by rw [← hdl]
    rwa [h2] at h1
  · rw [List.map_map, List.pairwise_map, List.pairwise_iff_getElem]
    intro i j hi hj hij
    have := hso i j (Nat.zero_le _) hij (by rw [← hs]; simpa using hj)
    simp only [Array.length_toList] at hi hj
    rw [getElem!_pos d' i hi, getElem!_pos d' j hj] at this
    unfold ltOf smC at this
    simp only [Array.getElem_toList, Function.comp]
    simpa only [decide_eq_false_iff_not] using this
  · rw [List.map_map]
    have e1 : cur.toList = d'.toList.map ((fun x : MV => x.2) ∘ fun x => x.1) ++ cur.toList.drop es.length := by
      show cur.toList = d'.toList.map (fun x => x.1.2) ++ _
      rw [← htake, List.take_append_drop]
    rw [← e1]; exact hcur
  · rw [List.length_append, List.length_append, List.length_map, List.length_map, List.length_map, List.length_drop, hcl, hdl']; omega
theorem sortNilM_any (w : World) : Calls Tryz.prog 57 #[.slice none 0 0, .func (.func 16) #[] #[]] w fun e W => e = .returned (.tuple #[]) ∧ Below w.heap.size w W := by
  have h := AnyF.slices_SortFunc_none Tryz.sortMat none 0 (.func (.func 16) #[] #[]) w
  change Calls Tryz.prog 57 _ _ _ at h
  refine h.mono ?_
  rintro e W ⟨rfl, rfl⟩
  exact ⟨rfl, Below.refl _ _⟩
theorem compNil_any (w : World) : Calls Tryz.prog 58 #[.slice none 0 0, .func (.func 59) #[] #[]] w fun e W => e = .returned (.slice none 0 0) ∧ w = W := by
  go_enter Tryz.func58, Tryz.ntmps58
  go_wp2
  go_ret
  exact ⟨rfl, rfl⟩
end
section
open Go.RowKit
def neg (l : List Ety) : List Ety := l.map fun x => ⟨x.q, x.bs, -x.n⟩
end
section
open Go.RowKit
theorem eq_upto {α : Type} {l m : List α} (hl : l.length = m.length) (h : ∀ (j : Nat) (x y : α), l[j]? = some x → m[j]? = some y → x = y) : l = m := by
  refine List.ext_getElem? fun j => ?_
  cases hj : l[j]? with
  | none => rw [List.getElem?_eq_none]; have := List.getElem?_eq_none_iff.1 hj; omega
  | some x =>
    have hjl := (List.getElem?_eq_some_iff.1 hj).1
    have h2 := List.getElem?_eq_getElem (l := m) (i := j) (by omega)
    rw [h2, h j x _ hj h2]
end
section
open Go.RowKit
set_option maxRecDepth 100000 in
set_option maxHeartbeats 2000000 in
theorem rsameM_any (l m : List (List Bnd)) (v1 v2 : Value) (w : World) (h1 : IsMats w v1 l) (h2 : IsMats w v2 m) :
    Calls Tryz.prog 20 #[v1, v2] w fun e w' => e = .returned (.bool (decide (l = m))) ∧ Below w.heap.size w w' := by
  obtain ⟨A1, c1, rfl, l1, m1, a1⟩ := h1
  obtain ⟨A2, c2, rfl, l2, m2, a2⟩ := h2
  have hn := len_i64 l1 m1
  have hn2 := len_i64 l2 m2
  have HA1 := Lib.hid a1
  have HA2 := Lib.hid a2
  clear a1 a2 l1 l2 m1 m2
  by_cases hne : l.length = m.length
  case neg =>
    have hd : decide (l = m) = false := by simp; intro h; exact hne (by rw [h])
    have hne' : ((l.length : Int) != (m.length : Int)) = true := by simp; omega
    rw [hd]
    clear hd hne
    go_enter Tryz.func20, Tryz.ntmps20
    go_wp2
    go_ret
    exact ⟨rfl, Below.refl _ _⟩
  have hne' : ((l.length : Int) != (m.length : Int)) = false := by simp; omega
  obtain ⟨r, hr⟩ : ∃ r, decide (l = m) = r := ⟨_, rfl⟩
  rw [hr]
  have HR := Lib.hid hr
  have HNE := Lib.hid hne
  clear hr hne
  go_enter Tryz.func20, Tryz.ntmps20
  go_wp2_with fail
  go_loopw [5] (fun i wr => ∃ k : Nat, k ≤ l.length ∧ i = .int .i64 k ∧ Hid (∀ (j : Nat) (x y : List Bnd), l[j]? = some x → m[j]? = some y → j < k → x = y) ∧ Below w.heap.size w wr) (fun i _ => l.length - (intOf i).toNat)
  case atStart => exact ⟨0, Nat.zero_le _, rfl, Lib.hid (fun _ _ _ _ _ h => absurd h (by omega)), Below.refl _ _⟩
  case round =>
    obtain ⟨k, hk, rfl, hi, hb⟩ := hrel
    by_cases hlt : k < l.length
    · have hk' : (k : Int) < (l.length : Int) := by omega
      have hkm : k < m.length := by have := HNE.out; omega
      have hk2 : (k : Int) < (m.length : Int) := by omega
      obtain ⟨b1, o1, rfl, u1, hu1, p0⟩ := HA1.out k l[k] (List.getElem?_eq_getElem hlt)
      obtain ⟨b2, o2, rfl, u2, hu2, q0⟩ := HA2.out k m[k] (List.getElem?_eq_getElem hkm)
      replace p0 := cell_stays hb p0
      replace q0 := cell_stays hb q0
      rw [Nat.mul_one] at p0 q0
      have hget := Lib.hid (List.getElem?_eq_getElem hlt)
      have hget2 := Lib.hid (List.getElem?_eq_getElem hkm)
      obtain ⟨x, hx⟩ : ∃ x, x = l[k] := ⟨_, rfl⟩
      obtain ⟨y, hy⟩ : ∃ y, y = m[k] := ⟨_, rfl⟩
      rw [← hx] at hget hu1
      rw [← hy] at hget2 hu2
      have HU1 := Lib.hid (hu1.stays bndAt_stays hb)
      have HU2 := Lib.hid (hu2.stays bndAt_stays hb)
      obtain ⟨A3, c3, rfl, -⟩ := hu1
      obtain ⟨A4, c4, rfl, -⟩ := hu2
      clear hx hy
      obtain ⟨r1, hr1⟩ : ∃ r, bsC x y = r := ⟨_, rfl⟩
      have HRR := Lib.hid (fun W (hW : Below wr.heap.size wr W) => gr_bel (rcompare_any x y _ _ W (HU1.out.stays bndAt_stays hW) (HU2.out.stays bndAt_stays hW)) hr1)
      unfold matV at HRR
      have HR1 := Lib.hid hr1
      clear hr1
      by_cases hr0 : r1 = 0
      · subst hr0
        have HXY : Hid (x = y) := Lib.hid (bsC_eq.1 HR1.out)
        go_wp2_with fail
        refine wp_region_F (fun W => W.cell? ⟨b1, o1 + k, none⟩ = some (.slice A3 x.length c3) ∧ W.cell? ⟨b2, o2 + k, none⟩ = some (.slice A4 y.length c4)) (by repeat (first | exact grows_cell _ _ _ | exact grows_true | refine grows_and ?_ ?_)) (by kernel_rfl) (by kernel_rfl) ?hF ?_; (case hF => (first | exact ⟨‹_›, ‹_›⟩ | (go_simp; done) | (simp [*]; done) | (repeat' (first | (refine And.intro ?_ ?_) | (go_simp; done) | exact cell_stays (bel_al (Below.refl _ _) _) (by assumption) | assumption)))); intro hne hxx; have hG : Hid (Grows (fun W => W.cell? ⟨b1, o1 + k, none⟩ = some (.slice A3 x.length c3) ∧ W.cell? ⟨b2, o2 + k, none⟩ = some (.slice A4 y.length c4))) := (by repeat (first | exact grows_cell _ _ _ | exact grows_true | refine grows_and ?_ ?_)); (repeat (go_big_quiet_step ((go_at_call 17; exact cls_callB hG (fun W hW => HRR.out W hW))))); clear hG hxx hne; refine wpQuiet_nil ?_; rintro _ ⟨⟨w', hb', hF'⟩, rfl⟩
        clear hF'
        go_wp2_with fail
        go_roundw
        case rel =>
          refine ⟨k + 1, by omega, by go_num, Lib.hid ?_, bel_tr hb hb'⟩
          intro j x' y' hj hj2 hjk
          rcases Nat.lt_or_eq_of_le (Nat.le_of_lt_succ hjk) with h | h
          · exact hi.out j x' y' hj hj2 h
          · subst h; rw [hget.out] at hj; rw [hget2.out] at hj2; injection hj with hj; injection hj2 with hj2; rw [← hj, ← hj2]; exact HXY.out
        case measure => simp [intOf]; omega
      · have hr' : (r1 != 0) = true := by simpa using hr0
        have HF2 : Hid (r = false) := Lib.hid (by
          rw [← HR.out]; simp; intro h
          have h7 := hget.out
          rw [h, hget2.out] at h7
          injection h7 with h7
          exact hr0 (by rw [← HR1.out, h7]; exact bsC_pc.refl _))
        clear hr0
        go_wp2_with fail
        refine wp_region_F (fun W => W.cell? ⟨b1, o1 + k, none⟩ = some (.slice A3 x.length c3) ∧ W.cell? ⟨b2, o2 + k, none⟩ = some (.slice A4 y.length c4)) (by repeat (first | exact grows_cell _ _ _ | exact grows_true | refine grows_and ?_ ?_)) (by kernel_rfl) (by kernel_rfl) ?hF ?_; (case hF => (first | exact ⟨‹_›, ‹_›⟩ | (go_simp; done) | (simp [*]; done) | (repeat' (first | (refine And.intro ?_ ?_) | (go_simp; done) | exact cell_stays (bel_al (Below.refl _ _) _) (by assumption) | assumption)))); intro hne hxx; have hG : Hid (Grows (fun W => W.cell? ⟨b1, o1 + k, none⟩ = some (.slice A3 x.length c3) ∧ W.cell? ⟨b2, o2 + k, none⟩ = some (.slice A4 y.length c4))) := (by repeat (first | exact grows_cell _ _ _ | exact grows_true | refine grows_and ?_ ?_)); (repeat (go_big_quiet_step ((go_at_call 17; exact cls_callB hG (fun W hW => HRR.out W hW))))); clear hG hxx hne; refine wpQuiet_nil ?_; rintro _ ⟨⟨w', hb', hF'⟩, rfl⟩
        clear hF'
        go_wp2_with fail
        go_ret
        rw [HF2.out]
        exact ⟨rfl, bel_tr hb hb'⟩
    · have hk' : ¬ (k : Int) < (l.length : Int) := by omega
      have HF : Hid (r = true) := Lib.hid (by
        rw [← HR.out, decide_eq_true_eq]
        refine eq_upto HNE.out fun j x y hj hj2 => hi.out j x y hj hj2 ?_
        have := (List.getElem?_eq_some_iff.1 hj).1; omega)
      go_wp2_with fail
      go_ret
      rw [HF.out]
      exact ⟨rfl, hb⟩
end
section
open Go.RowKit Go.Shelf
theorem mats_row {w : World} {g cap : Nat} {C : List MV} {spare : List Value} (hg : w.heap[g]? = some (.cells (C.map (·.2) ++ spare).toArray 24 (0, 0))) (hc : C.length ≤ cap) (hm : cap ≤ maxLen) (he : ∀ e ∈ C, IsBnds w e.2 e.1) : IsMats w (.slice (some ⟨g, 0, none⟩) C.length cap) (C.map (·.1)) := by
  refine ⟨_, cap, by rw [List.length_map], by rw [List.length_map]; exact hc, hm, fun k x hk => ⟨g, 0, rfl, ?_⟩⟩
  rw [List.getElem?_map] at hk
  obtain ⟨e, h1, rfl⟩ := Option.map_eq_some_iff.1 hk
  refine ⟨e.2, he e (List.mem_of_getElem? h1), ?_⟩
  rw [blk_cell hg, Nat.zero_add, Nat.mul_one]
  exact vals_at h1 spare
theorem mat_len {l : List Bnd} (h : matErr l = 0) : l.length ≤ 4096 := by
  unfold matErr at h
  split at h
  · omega
  · split at h
    · exact absurd h (by decide)
    · omega
set_option maxRecDepth 100000 in
set_option maxHeartbeats 4000000 in
theorem msort_any (l : List (List Bnd)) (v : Value) (w : World) (hl : IsMats w v l) (hlen : l.length ≤ 1000) : Calls Tryz.prog 18 #[v] w (MatRet w (sortR l)) := by
  obtain ⟨A, c, rfl, h1, h2, hat⟩ := hl
  have hn := len_i64 h1 h2
  have HL := Lib.hid hat
  obtain ⟨j0, hj0, hy0, hy1, hy2⟩ := info_parts info_mat
  obtain ⟨R, hR⟩ : ∃ R, sortR l = R := ⟨_, rfl⟩
  have HR := Lib.hid hR
  rw [hR]
  clear hat h1 h2 hR
  go_enter Tryz.func18, Tryz.ntmps18
  go_wp2_with fail
  go_loopw [4, 10] (fun av i wr => ∃ (k : Nat) (ms : List MV), k ≤ l.length ∧ i = .int .i64 k ∧ ms.length = k ∧ Hid (scanE (fun _ m => matErr m) (prevL l k) (l.drop k) = matsErr l ∧ ms.map (·.1) = l.take k ∧ MW w.heap.size wr av ms ∧ Below w.heap.size w wr)) (fun _ i _ => l.length - (intOf i).toNat)
  case atStart => exact ⟨0, [], Nat.zero_le _, rfl, rfl, Lib.hid ⟨rfl, rfl, MW.nil _ _, Below.refl _ _⟩⟩
  case round =>
    obtain ⟨k, ms, hk, rfl, hml, hI⟩ := hrel
    have hbr := hI.out.2.2.2
    have HML := Lib.hid hml
    clear hml
    by_cases hlt : k < l.length
    · have hk' : (k : Int) < (l.length : Int) := by omega
      obtain ⟨b, o, rfl, v', hv', c0⟩ := HL.out k l[k] (List.getElem?_eq_getElem hlt)
      replace c0 := cell_stays hbr c0
      rw [Nat.mul_one] at c0
      have hget := Lib.hid (List.getElem?_eq_getElem hlt)
      obtain ⟨x, hx⟩ : ∃ x, x = l[k] := ⟨_, rfl⟩
      rw [← hx] at hget hv'
      have HV := Lib.hid (hv'.stays bndAt_stays hbr)
      obtain ⟨A', c', rfl, -⟩ := hv'
      have hbl : b < wr.heap.size := World.block_lt_of_cell? wr ⟨b, _, none⟩ c0
      have hnb : b ≠ wr.heap.size := by omega
      have hnb' : wr.heap.size ≠ b := by omega
      obtain ⟨es, hes⟩ : ∃ e, matErr x = e := ⟨_, rfl⟩
      have HES := Lib.hid hes
      clear hx hes
      go_wp2_with fail
      refine calls_gen fun W9 e9 => ?_
      have y0 : W9.cell? ⟨wr.heap.size, 0, none⟩ = some (.slice A' x.length c') := by rw [e9]; go_simp
      have hb9 : Below wr.heap.size wr W9 := by rw [e9]; exact (by repeat (first | exact Below.refl _ _ | assumption | refine Below.drew ?_ | refine bel_al ?_ _ | refine bel_set ?_ (by omega) _ | refine bel_tr ?_ (by assumption)))
      clear e9
      refine (mcheck_any x _ W9 (HV.out.stays bndAt_stays hb9)).mono ?_
      rw [HES.out]
      rintro e w4 ⟨rfl, hb4⟩
      replace y0 := cell_stays hb4 y0
      have hb94 := bel_tr hb9 hb4
      by_cases h0 : es = 0
      case neg =>
        have h0' : (es != 0) = true := by simpa using h0
        have HX : Hid (R = ([], es)) := Lib.hid (by
          have h5 : matsErr l = es := (scan_stop hget.out hI.out.1 HES.out h0).symm
          rw [← HR.out, sortR, h5, if_pos h0])
        clear h0
        go_wp2_with fail
        go_ret2
        rw [HX.out]
        exact ⟨_, rfl, Sl.nil _ _ _ _ _ (Nat.zero_le _), bel_tr hbr hb94⟩
      subst h0
      have HV4 := Lib.hid (HV.out.stays bndAt_stays hb94)
      have HB94 := Lib.hid hb94
      have hxl := mat_len HES.out
      clear c0 hnb hnb' hbl hb9 hb4 hb94
      go_wp2_with fail
      refine (cloneB_any x _ w4 HV4.out (by omega)).mono ?_
      rintro e w5 ⟨v5, rfl, hnb5, hb5⟩
      have HN5 := Lib.hid hnb5
      obtain ⟨A5, c5, hv5⟩ := sl_form hnb5.1
      subst hv5
      have HB5 := Lib.hid (bel_tr HB94.out hb5)
      have HMW := Lib.hid ((hI.out.2.2.1.grow HB94.out).grow hb5)
      have HSZ := Lib.hid HB94.out.size
      have hsz5 := HB5.out.size
      have hszr := hbr.size
      clear hnb5 hb5
      go_wp2_with (at_builtin; refine wpList_app _ rfl (.tmp 19) (.tmp 24) 26 rfl w.heap.size 24 j0 _ 1 24 Tryz.underlying26 hj0 hy0 hy1 hy2 rfl (by decide) u4 ms.length (ms.map (·.2)) rfl (ownsRow_below HMW.out.row (bel_one _ _)) (some ⟨w5.heap.size, 0, none⟩) 1 1 [.slice A5 x.length c5] rfl (src_new' _ [.slice A5 x.length c5] _ 1 1 _ rfl rfl (by simp [Value.oneCell'])) (by have := HML.out; unfold maxLen; omega) (by have := HML.out; omega) (by simp; omega) ?_; intro v7 w7 hown7 hg7 hloc7)
      have hMA := MW.app HMW.out HN5.out.1 (fun g hg1 => by
        have h1 := HN5.out.2 g hg1
        have h3 := HSZ.out
        exact ⟨by omega, h1.2, fun e => by have := (ownsRow_lt hI.out.2.2.1.row e.symm).2; omega⟩) hown7 hg7 hloc7
      have hb7 : Below w.heap.size w w7 := (bel_al (bel_tr hbr HB5.out) _).trans (grown_below hg7 (by simp; omega) (fun g h => (ownsRow_lt hI.out.2.2.1.row h).1))
      have HMA := Lib.hid hMA
      clear hMA hown7 hg7 hloc7
      go_wp2_with fail
      go_roundw
      case rel =>
        refine ⟨k + 1, _, by omega, by go_num, ?_, Lib.hid ⟨scan_go hget.out hI.out.1 HES.out, ?_, HMA.out, hb7⟩⟩
        · rw [List.length_append, HML.out]; rfl
        · rw [List.map_append, hI.out.2.1, take_snoc' hget.out]; rfl
      case measure => simp [intOf]; omega
    · have hk' : ¬ (k : Int) < (l.length : Int) := by omega
      have hke : k = l.length := by omega
      subst hke
      have hI1 := hI.out
      rw [List.take_length] at hI1
      have HE0 : Hid (matsErr l = 0) := Lib.hid (scan_end (Nat.le_refl _) hI1.1).symm
      have HMM := Lib.hid hI1.2.1
      have HMW := Lib.hid hI1.2.2.1
      have HB0 := Lib.hid hbr
      have hrow := hI1.2.2.1.row
      clear hI hI1 hbr
      rcases own_cur hrow with ⟨hv, h0⟩ | ⟨g, cap, spare, hv, hbg, hh, hnc, hcm, hl2, hx2⟩
      · have hms : ms = [] := List.eq_nil_of_length_eq_zero h0
        have HX : Hid (R = ([], 0)) := Lib.hid (by
          have h3 := HMM.out
          rw [hms] at h3
          rw [← HR.out, sortR, HE0.out, if_neg (by simp), ← h3]
          rfl)
        subst hv
        clear h0 hms hrow
        go_wp2_with fail
        refine (sortNilM_any _).mono ?_
        rintro e w2 ⟨rfl, hb2⟩
        go_wp2_with fail
        refine (compNil_any _).mono ?_
        rintro e w3 ⟨rfl, rfl⟩
        go_wp2_with fail
        go_ret2
        rw [HX.out]
        exact ⟨_, rfl, Sl.nil _ _ _ _ _ (Nat.zero_le _), bel_tr HB0.out hb2⟩
      · subst hv
        have hmok : ∀ e ∈ ms, MOk wr g e := fun e he => ⟨(HMW.out.bnds e he).1, fun e1 => ((HMW.out.bnds e he).2 g e1).2.2 rfl⟩
        have HSO := Lib.hid (sortMats_any ms g cap spare wr hh (by have := HML.out; omega) hmok)
        have hgr := blk_lt hh
        have HBG := Lib.hid hbg
        have HL2 := Lib.hid hl2
        clear hrow hh hbg hl2 hx2
        go_wp2_with fail
        refine HSO.out.mono ?_
        rintro e w2 ⟨rfl, es', spare', hp, hso, hh2, hls, hgr2⟩
        have hel : es'.length = ms.length := hp.length_eq
        have hmok2 : ∀ e ∈ es', MOk w2 g e := fun e he => by
          have h1 := hmok e (hp.mem_iff.1 he)
          exact ⟨sl_kept' h1.1 fun b hb hv => hgr2.block b hb (fun e1 => h1.2 (by rw [hv, e1])), h1.2⟩
        have HCO := Lib.hid (compact_any es' g cap spare' w2 hh2 (by rw [hel]; exact hnc) hcm (by rw [hls, HL2.out, Nat.mul_one]) hmok2)
        rw [hel] at HCO
        have HCI := Lib.hid (comp_is hp (hso.imp fun h => by omega))
        rw [HMM.out] at HCI
        rw [hel] at HCI
        obtain ⟨C, hC⟩ : ∃ C, compT es' ms.length = C := ⟨_, rfl⟩
        have hCm : ∀ e ∈ C, e ∈ es' := by rw [← hC]; exact compT_mem es' _
        have hCl : C.length ≤ ms.length := by rw [← hC]; exact compT_len es' _
        rw [hC] at HCO HCI
        have HMK := Lib.hid (fun e he => hmok2 e (hCm e he))
        have HGR2 := Lib.hid hgr2
        clear hp hso hh2 hls hmok hmok2 hel hC hCm hgr2
        go_wp2_with fail
        refine HCO.out.mono ?_
        rintro e w3 ⟨spare3, rfl, hh3, hl3, hgr3⟩
        have hkb : ∀ e ∈ C, IsBnds w3 e.2 e.1 := fun e he => by
          have h1 := HMK.out e he
          exact sl_kept' h1.1 fun b hb hv => hgr3.block b hb (fun e1 => h1.2 (by rw [hv, e1]))
        have hM3 := mats_row hh3 (by omega) hcm hkb
        rw [HCI.out] at hM3
        have hCS : C.length = (sortM l).length := by rw [← HCI.out, List.length_map]
        have hbw3 : Below w.heap.size w w3 := (HB0.out.trans (grown_below HGR2.out HB0.out.size (fun g1 e => by injection e with e; have := HBG.out; omega))).trans (grown_below hgr3 (Nat.le_trans HB0.out.size HGR2.out.size) (fun g1 e => by injection e with e; have := HBG.out; omega))
        have HM3 := Lib.hid hM3
        have HBW3 := Lib.hid hbw3
        have HML2 := HML.out
        have h4096 : ¬ (4096 : Int) < (C.length : Int) := by omega
        have HX : Hid (R = (sortM l, 0)) := Lib.hid (by
          rw [← HR.out, sortR, HE0.out, if_neg (by simp), if_neg (by omega)])
        have hClm : (C.length : Int) ≤ 9223372036854775807 := by omega
        clear hh3 hl3 hgr3 hkb hM3 hCS hbw3
        go_wp2_with fail
        go_ret2
        rw [HX.out]
        exact ⟨_, rfl, HM3.out, HBW3.out⟩
end
end Go.Proofs.YtclpglgigpjfoaaGreatDoor
