/-
  Entries of one's own, sorted by the library.
-/
import Derived.Test.YteabfalklgffmaaDoorBuf16
import Derived.Test.YteabfalklgffmaaDoorSorts
import Derived.Shelf.SlSortCmp.WholeK
import Derived.Shelf.SlSortCmp.NoneTotal
set_option linter.unusedSimpArgs false
set_option linter.unusedVariables false
namespace Go.Proofs.YteabfalklgffmaaDoor
open Go.RowKit Go.Shelf Go.Sort

/-- Entries whose row is one cell (it is a slice). -/
def EntC : Type := { x : Ent // x.v.oneCell' = true }
instance : Inhabited EntC := ⟨⟨⟨.slice none 0 0, ⟨[], 0, 0, [], false⟩⟩, rfl⟩⟩
def EntC.cells (x : EntC) : List Value := x.1.cells
theorem EntC.cells_len (x : EntC) : x.cells.length = 5 := rfl
theorem EntC.one (x : EntC) : ∀ u ∈ x.cells, u.oneCell' = true := by
  obtain ⟨x, hx⟩ := x
  intro u hu
  simp [EntC.cells, Ent.cells] at hu
  rcases hu with rfl | rfl | rfl | rfl | rfl
  · rfl
  · rfl
  · rfl
  · exact hx
  · rfl
def ofC (l : List EntC) : List Ent := l.map fun x => x.1
theorem toC : ∀ (l : List Ent), (∀ x ∈ l, x.v.oneCell' = true) → ∃ m : List EntC, ofC m = l
  | [], _ => ⟨[], rfl⟩
  | x :: t, h => by
    obtain ⟨m, hm⟩ := toC t fun y hy => h y (List.mem_cons_of_mem _ hy)
    exact ⟨⟨x, h x (by simp)⟩ :: m, by show x :: ofC m = _; rw [hm]⟩
theorem ofC_len (l : List EntC) : (ofC l).length = l.length := List.length_map _
theorem cellsC (l : List EntC) : entCells (ofC l) = l.flatMap EntC.cells := by unfold entCells ofC; rw [List.flatMap_map]; rfl
def cfE (x y : EntC) : Int := cmpE x.1.e y.1.e
theorem lt_cfE (x y : EntC) : ltOf cfE x y = decide (cmpE x.1.e y.1.e < 0) := rfl
theorem swoE : SWO (ltOf cfE) where
  irrefl x := by rw [lt_cfE, show cmpE x.1.e x.1.e = 0 from cmpE_zero.2 ⟨rfl, rfl, rfl⟩]; rfl
  trans x y z h1 h2 := by
    rw [lt_cfE, decide_eq_true_eq] at h1 h2 ⊢
    exact cmpE_trans h1 h2
  ntrans x y z h1 h2 := by
    rw [lt_cfE, decide_eq_false_iff_not] at h1 h2 ⊢
    intro h
    by_cases h0 : cmpE x.1.e y.1.e = 0
    · rw [cmpE_same h0] at h
      exact h2 h
    · exact h2 (cmpE_trans (cmpE_gt h0 h1) h)
theorem flat_ents (l : List EntC) : (flatK EntC.cells 5 l.toArray).toList = entCells (ofC l) := by
  rw [cellsC]
  apply List.ext_getElem?
  intro t
  have e : t / 5 * 5 + t % 5 = t := by omega
  have h1 := flat_at EntC.cells_len l (t / 5) (t % 5) (by omega)
  rw [e] at h1
  rw [h1]
  by_cases hlt : t / 5 < l.length
  · have hs : t < (flatK EntC.cells 5 l.toArray).size := by simp; omega
    have h2 := get_flatK EntC.cells 5 l.toArray t (by simp; omega)
    rw [getElem!_pos _ t hs] at h2
    rw [Array.getElem?_toList, Array.getElem?_eq_getElem hs, h2, List.getElem?_eq_getElem hlt]
    simp only [Option.bind_some]
    have h3 : (l.toArray)[t / 5]! = l[t / 5] := by rw [getElem!_pos l.toArray _ (by simpa using hlt)]; simp
    rw [h3]
    have h4 : t % 5 < (l[t / 5]).cells.length := by rw [EntC.cells_len]; omega
    rw [List.getElem?_eq_getElem h4, getElem!_pos (l[t / 5]).cells _ h4]
  · rw [List.getElem?_eq_none (l := l) (by omega), Array.getElem?_toList, Array.getElem?_eq_none (by simp; omega)]
    rfl
theorem holds_ents {w : World} {base g cap n : Nat} {l : List EntC} (hl : n = l.length) (h : w.ownsRow base 28 5 (.slice (some ⟨g, 0, none⟩) n cap) n (entCells (ofC l))) : HoldsK EntC.cells 5 w g 0 l.toArray := by
  subst hl
  rcases h.2 with ⟨h', -⟩ | ⟨g', cap', cur, h', hb, hg, hn, hc, hsz, ht⟩
  · cases h'
  · injection h' with e1 e2 e3
    injection e1 with e1
    injection e1 with e1
    subst e1 e3
    intro j hj
    have hj' : j < l.length * 5 := by simpa using hj
    have hF := flat_ents l
    generalize flatK EntC.cells 5 l.toArray = F at hj hF ⊢
    refine ⟨?_, by simp [World.frozen?, hg]⟩
    have h1 : (cur.toList.take (l.length * 5))[j]? = F.toList[j]? := by rw [ht, hF]
    rw [List.getElem?_take_of_lt hj', Array.getElem?_toList, Array.getElem?_toList] at h1
    simp only [World.cell?, hg, Nat.zero_add, Option.isSome_none, Bool.false_eq_true, if_false]
    rw [h1, getElem!_pos F j hj]
    simp [hj]
theorem heap_sortedK {w : World} {g n : Nat} {os : Array Obj} {cur : Array Value} {e : TypeId} {fr : Nat × Nat} (d : Array EntC) (hb : w.heap[g]? = some (.cells cur e fr)) :
    (sortWorldK EntC.cells 5 w g 0 n d os).heap[g]? = some (.cells (putCells id 0 (flatK EntC.cells 5 d) cur) e fr) := by
  have hg : g < w.heap.size := (Array.getElem?_eq_some_iff.1 hb).1
  unfold sortWorldK putRowK
  rw [heap_grow_old _ _ (by simpa using hg)]
  simp [putRow, mapBlock, Sort.ahead, Array.getElem?_modify, hb, onCells]
theorem grownBy_sortedK {w : World} {g n : Nat} {os : Array Obj} (d : Array EntC) : w.grownBy (sortWorldK EntC.cells 5 w g 0 n d os) (some g) := by
  unfold sortWorldK putRowK
  refine ⟨rfl, rfl, rfl, by simp, fun k hk hne => ?_⟩
  rw [heap_grow_old _ _ (by simpa using hk)]
  have : g ≠ k := fun e => hne (by rw [e])
  simp [putRow, mapBlock, Sort.ahead, Array.getElem?_modify, this]
theorem take_putK (cur F : Array Value) (h : F.size ≤ cur.size) : (putCells id 0 F cur).toList.take F.size = F.toList := by
  apply List.ext_getElem?
  intro j
  by_cases hj : j < F.size
  · rw [List.getElem?_take_of_lt hj, Array.getElem?_toList, Array.getElem?_toList]
    simp [putCells, hj, show j < cur.size by omega]
  · rw [List.getElem?_take_eq_none (by omega), List.getElem?_eq_none (by simp; omega)]
theorem ownsRow_sortedK {w : World} {base g cap n m : Nat} {os : Array Obj} {xs : List Value} {l : List EntC} (hl : m = l.length) (h : w.ownsRow base 28 5 (.slice (some ⟨g, 0, none⟩) m cap) m xs) :
    (sortWorldK EntC.cells 5 w g 0 n l.toArray os).ownsRow base 28 5 (.slice (some ⟨g, 0, none⟩) m cap) m (entCells (ofC l)) := by
  subst hl
  rcases h.2 with ⟨h', -⟩ | ⟨g', cap', cur, h', hb, hg, hn, hc, hsz, ht⟩
  · cases h'
  · injection h' with e1 e2 e3
    injection e1 with e1
    injection e1 with e1
    subst e1 e3
    refine ⟨by rw [cellsC]; exact flat_len EntC.cells_len l, .inr ⟨g, cap, _, rfl, hb, heap_sortedK _ hg, hn, hc, by simp [putCells, hsz], ?_⟩⟩
    have h1 := take_putK cur (flatK EntC.cells 5 l.toArray) (by simp; omega)
    rw [flat_ents, size_flatK, List.size_toArray] at h1
    exact h1

set_option maxHeartbeats 1000000 in
set_option maxRecDepth 100000 in
theorem sortEnts_any (v : Value) (l : List Ent) (base : Nat) (w : World) (h : OwnE w base v l) (hl : l.length ≤ 1000000) :
    Calls Tryd.prog 53 #[v, .func (.func 23) #[] #[]] w fun e w' => e = .returned (.tuple #[]) ∧ ∃ l', l'.Perm l ∧ ((ens l').Pairwise fun a b => ¬ cmpE b a < 0) ∧ OwnE w' base v l' ∧ w.grownBy w' v.ownBlock := by
  have eg : ∀ args w, (callFunc 23 args).run Tryd.prog w = .ok (.enter 23 args) w := enters_of Tryd.func23 (by kernel_rfl) rfl
  rcases h.own.2 with ⟨h', hn⟩ | ⟨g, cap, cur, h', hb, hg, hn, hc, hsz, ht⟩
  · subst h'
    have hl0 : l = [] := List.length_eq_zero_iff.1 hn
    subst hl0
    have hcon := AnyF.slices_SortFunc_none Tryd.sortEnt none 0 (.func (.func 23) #[] #[]) w
    change Calls Tryd.prog 53 _ _ _ at hcon
    refine hcon.mono ?_
    rintro e w' ⟨rfl, rfl⟩
    exact ⟨rfl, [], .refl _, .nil, h, grown_of_below (Below.refl _ _) _⟩
  · subst h'
    have hblk : g < w.heap.size := (Array.getElem?_eq_some_iff.1 hg).1
    obtain ⟨m, hm⟩ := toC l fun x hx => by
      obtain ⟨A, k, hv, -⟩ := h.rows x hx
      rw [hv]; rfl
    subst hm
    rw [ofC_len] at hl
    have hcmp : CmpLays Tryd.prog 23 #[] EntC.cells 5 cfE g 0 m.toArray.size w := fun _ _ _ _ x y => order_grow x.1 y.1 _
    have hown := h.own
    have hcon := AnyQ.slices_SortFunc Tryd.sortEnt 5 (fun _ => rfl) (fun _ => rfl) EntC.cells EntC.cells_len EntC.one cfE swoE 23 #[] g 0 cap m.toArray w eg hcmp (holds_ents (ofC_len m) hown) hblk (by simp; omega)
    change Calls Tryd.prog 53 _ _ _ at hcon
    rw [List.size_toArray] at hcon
    rw [ofC_len]
    refine hcon.mono ?_
    rintro e w' ⟨rfl, d', n, os, ⟨hs, -, hp⟩, hso, rfl⟩
    obtain ⟨m'⟩ := d'
    rw [List.size_toArray, List.size_toArray] at hs
    have hp' : m'.Perm m := by
      rw [show m.length = m'.toArray.size by simp [hs], Array.extract_size] at hp
      have e2 : m.toArray.extract 0 m'.toArray.size = m.toArray := by
        rw [show m'.toArray.size = m.toArray.size by simp [hs], Array.extract_size]
      rw [e2] at hp
      exact hp
    have hpo : (ofC m').Perm (ofC m) := hp'.map _
    refine ⟨rfl, ofC m', hpo, ?_, ⟨?_, fun c hc => ?_, fun c hc k hk => ?_⟩, grownBy_sortedK _⟩
    · refine List.pairwise_iff_getElem.2 fun i j hi hj hij => ?_
      have hi' : i < m'.length := by simpa [ens, ofC] using hi
      have hj' : j < m'.length := by simpa [ens, ofC] using hj
      have h1 := hso i j (Nat.zero_le _) hij (by show j < m.length; omega)
      rw [getElem!_pos (⟨m'⟩ : Array EntC) j (by simpa using hj'), getElem!_pos (⟨m'⟩ : Array EntC) i (by simpa using hi'), lt_cfE, decide_eq_false_iff_not] at h1
      simpa [ens, ofC] using h1
    · rw [ofC_len, hs]
      exact ownsRow_sortedK hs.symm (by rw [← ofC_len m]; exact hown)
    · exact sl_grown (h.rows c (hpo.subset hc)) (grownBy_sortedK _) fun k hk e => by
        have h1 := (h.far c (hpo.subset hc) k hk).2.2
        exact h1 e
    · obtain ⟨h0, h1, h2⟩ := h.far c (hpo.subset hc) k hk
      exact ⟨h0, Nat.lt_of_lt_of_le h1 (grownBy_sortedK (w := w) (g := g) (n := n) (os := os) m'.toArray).size, h2⟩

end Go.Proofs.YteabfalklgffmaaDoor
