/- slices.SortFunc at matches. -/
import Derived.Test.YtlofjcicpkfcdaaGreatDoorLcomp
namespace Go.Proofs.YtlofjcicpkfcdaaGreatDoor
open Go.RowKit Go.Shelf
open Go.Sort (SWO PermIn SortedIn HoldsK grow)

abbrev SM (w : World) (g : Nat) : Type := { e : MV // MOk w g e }
instance smInh (w : World) (g : Nat) : Inhabited (SM w g) := ⟨⟨([], .slice none 0 0), ⟨none, 0, rfl, Nat.le_refl _, Nat.zero_le _, by simp⟩, by simp [Value.ownBlock]⟩⟩
def smEnc {w : World} {g : Nat} (x : SM w g) : List Value := [x.1.2]
def smC {w : World} {g : Nat} (x y : SM w g) : Int := bsC x.1.1 y.1.1
theorem smC_pc {w : World} {g : Nat} : PC (@smC w g) := bsC_pc.of fun x : SM w g => x.1.1
theorem sm_list {w : World} {g : Nat} : ∀ es : List MV, (∀ e ∈ es, MOk w g e) → ∃ dl : List (SM w g), dl.map (fun x => x.1) = es
  | [], _ => ⟨[], rfl⟩
  | e :: es, h => by
    obtain ⟨dl, hd⟩ := sm_list es fun x hx => h x (List.mem_cons_of_mem _ hx)
    exact ⟨⟨e, h e (List.mem_cons_self ..)⟩ :: dl, by rw [List.map_cons, hd]⟩
theorem enter_mcmp (args : Array Value) (W : World) : (callFunc 51 args).run Tryz.prog W = .ok (.enter 51 args) W := enters_of Tryz.func51 (by kernel_rfl) rfl args W
theorem sortW_self {α : Type} [Inhabited α] (enc : α → List Value) (k : Nat) (w : World) (g off m : Nat) (dk : Array α) (os : Array Obj) {cur : Array Value} {t : TypeId} {fr : Nat × Nat} (hg : w.heap[g]? = some (.cells cur t fr)) :
    ∃ cur' : Array Value, (sortWorldK enc k w g off m dk os).heap[g]? = some (.cells cur' t fr) ∧ cur'.size = cur.size := by
  have hl : g < w.heap.size := by
    rcases Nat.lt_or_ge g w.heap.size with h' | h'
    · exact h'
    · rw [Array.getElem?_eq_none h'] at hg; cases hg
  unfold sortWorldK Go.Sort.putRowK Go.Sort.putRow Go.Sort.mapBlock grow Go.Sort.ahead
  simp only [Array.getElem?_append, Array.size_modify, hl, if_true, Array.getElem?_modify, hg, Option.map_some, Go.Sort.onCells]
  exact ⟨_, rfl, by simp [Go.Sort.putCells]⟩

theorem sortMats_any (es : List MV) (g cap : Nat) (spare : List Value) (w : World) (hg : w.heap[g]? = some (.cells (es.map (·.2) ++ spare).toArray 30 (0, 0))) (hsz : es.length ≤ 1048576) (he : ∀ e ∈ es, MOk w g e) :
    Calls Tryz.prog 50 #[.slice (some ⟨g, 0, none⟩) es.length cap, .func (.func 51) #[] #[]] w fun e W => e = .returned (.tuple #[]) ∧ ∃ (es' : List MV) (spare' : List Value), es'.Perm es ∧ (es'.map (·.1)).Pairwise (fun a b => ¬ bsC b a < 0) ∧ W.heap[g]? = some (.cells (es'.map (·.2) ++ spare').toArray 30 (0, 0)) ∧ (es'.map (·.2) ++ spare').length = (es.map (·.2) ++ spare).length ∧ w.grownBy W (some g) := by
  obtain ⟨dl, hdl⟩ := sm_list es he
  have hdn : dl.length = es.length := by rw [← hdl, List.length_map]
  have hget : ∀ j, j < dl.length → ∃ x : SM w g, dl.toArray[j]! = x ∧ es[j]? = some x.1 := fun j hj => by
    refine ⟨dl[j], by simp [hj], ?_⟩
    rw [← hdl, List.getElem?_map, List.getElem?_eq_getElem hj]; rfl
  have hH : HoldsK smEnc 1 w g 0 dl.toArray := by
    intro t ht
    rw [Go.Sort.size_flatK] at ht
    rw [Go.Sort.get_flatK _ _ _ _ ht]
    simp only [List.size_toArray] at ht
    obtain ⟨x, hx, hex⟩ := hget (t / 1) (by omega)
    rw [hx, Nat.zero_add]
    have c0 := vals_at hex spare
    refine ⟨?_, blk_frozen hg t⟩
    rw [blk_cell hg]
    rw [Nat.div_one] at c0
    rw [Nat.mod_one]
    exact c0
  have hcmp : CmpLays Tryz.prog 51 #[] smEnc 1 (@smC w g) g 0 dl.toArray.size w := by
    intro m os dk _ x y
    have hW := sortW_grown smEnc 1 w g 0 m dk os
    have hst : ∀ z : SM w g, IsBnds (sortWorldK smEnc 1 w g 0 m dk os) z.1.2 z.1.1 := fun z => sl_kept' z.2.1 fun b hb hv => hW.block b hb (fun e => z.2.2 (by rw [hv, e]))
    refine (mcompare_any x.1.1 y.1.1 x.1.2 y.1.2 _ (hst x) (hst y)).mono ?_
    rintro e w' ⟨rfl, h2⟩
    exact ⟨rfl, gr_grow h2⟩
  have hlen : dl.toArray.size = es.length := by simpa using hdn
  have h := AnyQ.slices_SortFunc Tryz.sortMat 1 Tryz.isAgg30 Tryz.sizeOf30 smEnc (fun _ => rfl) (fun x v hv => by
      simp only [smEnc, List.mem_cons, List.not_mem_nil, or_false] at hv
      subst hv
      exact sl_oneCell x.2.1) (@smC w g) (pc_swo smC_pc) 51 #[] g 0 cap dl.toArray w enter_mcmp hcmp hH (blk_lt hg) (by rw [hlen]; omega)
  change Calls Tryz.prog 50 _ _ _ at h
  rw [hlen] at h
  refine h.mono ?_
  rintro e W ⟨rfl, d', n, os, ⟨hs, _, hp⟩, hso, rfl⟩
  rw [hlen] at hs
  have hex : ∀ d : Array (SM w g), d.size = es.length → (d.extract 0 es.length).toList = d.toList := fun d hd => by rw [← hd]; simp
  rw [hex d' hs, hex dl.toArray hlen] at hp
  have hHd : HoldsK smEnc 1 (sortWorldK smEnc 1 w g 0 n d' os) g 0 d' := holdsK_sortWorldK_c smEnc 1 w g 0 dl.toArray d' n os hH (blk_lt hg) (by rw [hs, hlen])
  have hW := sortW_grown smEnc 1 w g 0 n d' os
  obtain ⟨cur, hcur, hcs⟩ := sortW_self smEnc 1 w g 0 n d' os hg
  have hdl' : d'.toList.length = es.length := by rw [Array.length_toList, hs]
  have hcl : cur.toList.length = es.length + spare.length := by rw [Array.length_toList, hcs]; simp
  have htake : cur.toList.take es.length = d'.toList.map (fun x => x.1.2) := by
    refine List.ext_getElem? fun k => ?_
    by_cases hk : k < es.length
    · have hkd : k < d'.size := by omega
      have q0 := (hHd.cell (c := 0) hkd (by decide)).1
      rw [List.getElem?_take_of_lt hk, List.getElem?_map]
      have hz : d'[k]! = d'[k] := getElem!_pos d' k hkd
      rw [hz] at q0
      simp only [Nat.zero_add, Nat.mul_one, Nat.add_zero, World.cell?, hcur] at q0
      have e2 : d'.toList[k]? = some d'[k] := by rw [Array.getElem?_toList]; exact Array.getElem?_eq_getElem hkd
      rw [e2, Array.getElem?_toList]
      simpa [smEnc] using q0
    · rw [List.getElem?_eq_none (by rw [List.length_take]; omega), List.getElem?_eq_none (by rw [List.length_map]; omega)]
  refine ⟨rfl, d'.toList.map (fun x => x.1), cur.toList.drop es.length, ?_, ?_, ?_, ?_, hW⟩
  · have h1 := hp.map (fun x : SM w g => x.1)
    have h2 : dl.toArray.toList.map (fun x : SM w g => x.1) = es := by rw [← hdl]
    rwa [h2] at h1
  · rw [List.map_map, List.pairwise_map, List.pairwise_iff_getElem]
    intro i j hi hj hij
    have := hso i j (Nat.zero_le _) hij (by rw [← hs]; simpa using hj)
    simp only [Array.length_toList] at hi hj
    rw [getElem!_pos d' i hi, getElem!_pos d' j hj] at this
    unfold ltOf smC at this
    simp only [Array.getElem_toList, Function.comp]
    simpa only [decide_eq_false_iff_not] using this
  · rw [List.map_map]
    have e1 : cur.toList = d'.toList.map ((fun x : MV => x.2) ∘ fun x => x.1) ++ cur.toList.drop es.length := by
      show cur.toList = d'.toList.map (fun x => x.1.2) ++ _
      rw [← htake, List.take_append_drop]
    rw [← e1]; exact hcur
  · rw [List.length_append, List.length_append, List.length_map, List.length_map, List.length_map, List.length_drop, hcl, hdl']; omega
theorem sortNilM_any (w : World) : Calls Tryz.prog 50 #[.slice none 0 0, .func (.func 51) #[] #[]] w fun e W => e = .returned (.tuple #[]) ∧ Below w.heap.size w W := by
  have h := AnyF.slices_SortFunc_none Tryz.sortMat none 0 (.func (.func 51) #[] #[]) w
  change Calls Tryz.prog 50 _ _ _ at h
  refine h.mono ?_
  rintro e W ⟨rfl, rfl⟩
  exact ⟨rfl, Below.refl _ _⟩
theorem compNil_any (w : World) : Calls Tryz.prog 52 #[.slice none 0 0, .func (.func 53) #[] #[]] w fun e W => e = .returned (.slice none 0 0) ∧ w = W := by
  go_enter Tryz.func52, Tryz.ntmps52
  go_wp2
  go_ret
  exact ⟨rfl, rfl⟩

/-! ### match.Sort -/
def sortedM (S : List (List Bnd)) (l : List (List Bnd)) : Prop := S.Pairwise (fun a b => bsC a b < 0) ∧ ∀ k, k ∈ S ↔ k ∈ l
theorem asc_uniq : ∀ {S T : List (List Bnd)}, S.Pairwise (fun a b => bsC a b < 0) → T.Pairwise (fun a b => bsC a b < 0) → (∀ k, k ∈ S ↔ k ∈ T) → S = T
  | [], [], _, _, _ => rfl
  | [], b :: T, _, _, h => absurd ((h b).2 (List.mem_cons_self ..)) (by simp)
  | a :: S, [], _, _, h => absurd ((h a).1 (List.mem_cons_self ..)) (by simp)
  | a :: S, b :: T, hS, hT, h => by
    obtain ⟨h1, h2⟩ := List.pairwise_cons.1 hS
    obtain ⟨k1, k2⟩ := List.pairwise_cons.1 hT
    have hno : ∀ {x : List Bnd}, ¬ bsC x x < 0 := fun {x} h => by rw [bsC_pc.refl] at h; omega
    have hab : a = b := by
      rcases List.mem_cons.1 ((h a).1 (List.mem_cons_self ..)) with h3 | h3
      · exact h3
      · rcases List.mem_cons.1 ((h b).2 (List.mem_cons_self ..)) with h4 | h4
        · exact h4.symm
        · exact absurd (bsC_pc.lt a b a (h1 b h4) (k1 a h3)) hno
    subst hab
    rw [asc_uniq h2 k2 fun k => ⟨fun hk => ?_, fun hk => ?_⟩]
    · rcases List.mem_cons.1 ((h k).1 (List.mem_cons_of_mem _ hk)) with rfl | h3
      · exact absurd (h1 k hk) hno
      · exact h3
    · rcases List.mem_cons.1 ((h k).2 (List.mem_cons_of_mem _ hk)) with rfl | h3
      · exact absurd (k1 k hk) hno
      · exact h3
/-- insertion in ascending order, each once -/
def putM (m : List Bnd) : List (List Bnd) → List (List Bnd)
  | [] => [m]
  | x :: l => if bsC x m < 0 then x :: putM m l else if bsC x m = 0 then x :: l else m :: x :: l
def sortM (l : List (List Bnd)) : List (List Bnd) := l.foldl (fun S m => putM m S) []
theorem putM_mem (m : List Bnd) : ∀ l k, k ∈ putM m l ↔ k = m ∨ k ∈ l
  | [], k => by simp [putM]
  | x :: l, k => by
    have ih := putM_mem m l k
    simp only [putM]
    split
    · simp only [List.mem_cons, ih]
      constructor
      · rintro (h | h | h)
        · exact .inr (.inl h)
        · exact .inl h
        · exact .inr (.inr h)
      · rintro (h | h | h)
        · exact .inr (.inl h)
        · exact .inl h
        · exact .inr (.inr h)
    · split
      · next h => have := bsC_eq.1 h; subst this; simp
      · simp
theorem putM_asc {m : List Bnd} : ∀ {l}, l.Pairwise (fun a b => bsC a b < 0) → (putM m l).Pairwise (fun a b => bsC a b < 0)
  | [], _ => by simp [putM]
  | x :: l, h => by
    obtain ⟨h1, h2⟩ := List.pairwise_cons.1 h
    simp only [putM]
    split
    · next hx =>
      refine List.pairwise_cons.2 ⟨fun k hk => ?_, putM_asc h2⟩
      rcases (putM_mem m l k).1 hk with rfl | hk
      · exact hx
      · exact h1 k hk
    · split
      · exact h
      · next hx hx2 =>
        have hm : bsC m x < 0 := by have := bsC_pc.anti x m; omega
        refine List.pairwise_cons.2 ⟨fun k hk => ?_, h⟩
        rcases List.mem_cons.1 hk with rfl | hk
        · exact hm
        · exact bsC_pc.lt m x k hm (h1 k hk)
theorem sortM_go (l : List (List Bnd)) : ∀ S : List (List Bnd), S.Pairwise (fun a b => bsC a b < 0) → (l.foldl (fun S m => putM m S) S).Pairwise (fun a b => bsC a b < 0) ∧ ∀ k, k ∈ l.foldl (fun S m => putM m S) S ↔ k ∈ S ∨ k ∈ l := by
  induction l with
  | nil => intro S h; exact ⟨h, fun k => by simp⟩
  | cons x l ih =>
    intro S h
    obtain ⟨h1, h2⟩ := ih _ (putM_asc (m := x) h)
    refine ⟨h1, fun k => ?_⟩
    rw [List.foldl_cons, h2, putM_mem, List.mem_cons]
    constructor
    · rintro ((h | h) | h)
      · exact .inr (.inl h)
      · exact .inl h
      · exact .inr (.inr h)
    · rintro (h | h | h)
      · exact .inl (.inr h)
      · exact .inl (.inl h)
      · exact .inr h
theorem sortM_ok (l : List (List Bnd)) : (sortM l).Pairwise (fun a b => bsC a b < 0) ∧ ∀ k, k ∈ sortM l ↔ k ∈ l := by
  obtain ⟨h1, h2⟩ := sortM_go l [] List.Pairwise.nil
  exact ⟨h1, fun k => by rw [show sortM l = l.foldl (fun S m => putM m S) [] from rfl, h2]; simp⟩
theorem sortM_is {S l : List (List Bnd)} (h1 : S.Pairwise (fun a b => bsC a b < 0)) (h2 : ∀ k, k ∈ S ↔ k ∈ l) : S = sortM l :=
  asc_uniq h1 (sortM_ok l).1 fun k => by rw [h2, (sortM_ok l).2]
def matsErr (l : List (List Bnd)) : Int := scanE (fun _ m => matErr m) none l
def sortR (l : List (List Bnd)) : List (List Bnd) × Int := if matsErr l ≠ 0 then ([], matsErr l) else if 4096 < (sortM l).length then ([], 5) else (sortM l, 0)
theorem comp_is {es l : List MV} (hp : es.Perm l) (hs : (es.map (·.1)).Pairwise (fun a b => ¬ bsC b a < 0)) : (compT es es.length).map (·.1) = sortM (l.map (·.1)) := by
  have h := comp_ok hs es.length (Nat.le_refl _)
  refine sortM_is h.asc fun k => ?_
  rw [h.mem, List.take_length]
  exact (hp.map (·.1)).mem_iff
end Go.Proofs.YtlofjcicpkfcdaaGreatDoor
