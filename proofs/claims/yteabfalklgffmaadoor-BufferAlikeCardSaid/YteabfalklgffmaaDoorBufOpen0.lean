/-
  How arguments are opened, and how great they are: slices in slices, structs, strings.
-/
import Derived.Test.YteabfalklgffmaaDoorBufM1
import Derived.SizedLaws
import Derived.Deep.Fields
set_option linter.unusedSimpArgs false
set_option linter.unusedVariables false
namespace Go.Proofs.YteabfalklgffmaaDoor
open Go.ChangeShapes Go.WideShapes Go.RowKit Go.Deep

theorem weights_all {H : Type} {P : Program} {e : TypeId} : ∀ {l : List (DataW H)} {d : DataW H}, d ∈ l → ∀ n ∈ d.weights P e, n ∈ DataW.weightsAll P e l
  | a :: l, d, hd, n, hn => by
    rcases List.mem_cons.1 hd with rfl | hd
    · simp [DataW.weightsAll, hn]
    · simp [DataW.weightsAll, weights_all hd n hn]
  | [], _, hd, _, _ => by cases hd
/-- Nothing in it is greater than what can be reached. -/
def InReach {H : Type} (P : Program) (t : TypeId) (d : DataW H) : Prop := ∀ n ∈ d.weights P t, n ≤ reachBytes
theorem inReach_of {H : Type} {P : Program} {ts : List TypeId} {ds : List (DataW H)} (h : (DataW.weightsEach P ts ds).all (· ≤ reachBytes) = true) (j : Nat) (t : TypeId) (d : DataW H) (ht : ts[j]? = some t) (hd : ds[j]? = some d) : InReach P t d := fun n hn => by
  have := List.all_eq_true.1 h _ (DataW.weights_mem_each ht hd n hn)
  simpa using this

section
variable {H : Type} {enc : TypeId × Value → H} {P : Program} {w : World} {base : Nat} {spare : Nat → Bool} {held : Bool}
/-- A slice whose elements are flat, each of which has a property that its reading shows; nothing of it is too great. -/
theorem open_flatS {t e : TypeId} {fuel : Nat} {cs : List Value} {x : DataW H × List MemPlace} {α : Type} {f : α → List Value} {Q : α → Prop} {size : Nat} (hf : ∀ a, (f a).length = size) (h0 : 0 < size)
    (ht : P.underlying t = some (.slice e)) (hC : P.cellsOf e = size) (hel : ∀ fuel cs x, DataW.trod enc P w base spare held fuel e cs = some x → InReach P e x.1 → ∃ a, cs = f a ∧ Q a)
    (h : DataW.trod enc P w base spare held fuel t cs = some x) (hw : InReach P t x.1) : ∃ (v : Value) (l : List α), cs = [v] ∧ Sl w v l.length (l.flatMap f) ∧ (∀ a ∈ l, Q a) ∧ l.length * P.bytesOf e ≤ reachBytes := by
  rcases open_slice ht h with ⟨h0, -⟩ | ⟨a, len, cap, m, n, D, Pl, rfl, -, hl, hm, hmm, hx, hi⟩
  · exact ⟨_, [], h0, Sl.nil_ w, nofun, by simp⟩
  · have hlm : len ≤ m := by rw [hmm]; split <;> omega
    have hww : ∀ i, i < len → InReach P e (D i) := fun i hi' n hn => by
      refine hw n ?_
      rw [hx]
      simp only [DataW.weights, ht]
      refine List.mem_cons_of_mem _ (List.mem_append_left _ (weights_all (d := D i) ?_ n hn))
      exact List.mem_map.2 ⟨i, List.mem_range.2 hi', rfl⟩
    have hby : len * P.bytesOf e ≤ reachBytes := by
      have := hw ((((List.range len).map D).length + ((List.range (m - len)).map fun j => D (len + j)).length) * P.bytesOf e) (by
        rw [hx]
        simp [DataW.weights, ht])
      simp only [List.length_map, List.length_range] at this
      exact Nat.le_trans (Nat.mul_le_mul_right _ (by omega)) this
    have hall : ∀ i : Fin len, ∃ y : α, (∀ j, j < size → w.cell? (a.add (i.val * size + j)) = (f y)[j]?) ∧ Q y := by
      intro i
      obtain ⟨cs', hc, ht'⟩ := hi i.val (by omega)
      obtain ⟨y, rfl, hq⟩ := hel _ _ _ ht' (hww i.val i.isLt)
      obtain ⟨-, -, hat⟩ := World.cells?_some hc
      refine ⟨y, fun j hj => ?_, hq⟩
      have := hat j (by rw [hC]; exact hj)
      rw [hC, Go.Deep.add_add] at this
      exact this
    obtain ⟨g, hgg⟩ := Classical.axiomOfChoice hall
    have hg := fun i => (hgg i).1
    refine ⟨_, List.ofFn g, rfl, ?_, fun y hy => ?_, by rw [List.length_ofFn]; exact hby⟩
    · rw [List.length_ofFn]
      refine ⟨_, _, rfl, hl, hm, (fun h => by cases h), fun hne => ?_⟩
      have hlen : 0 < len := by
        rcases Nat.eq_zero_or_pos len with h1 | h1
        · subst h1; simp at hne
        · exact h1
      obtain ⟨b, off, spot⟩ := a
      have hc0 := hg ⟨0, hlen⟩ 0 h0
      rw [List.getElem?_eq_getElem (by rw [hf]; exact h0)] at hc0
      have hs : spot = none := by simpa [Addr.add] using World.cell?_spot hc0
      subst hs
      refine ⟨b, off, rfl, fun j u hj => ?_⟩
      have hq : j < len * size := by
        have := (List.getElem?_eq_some_iff.1 hj).1
        rw [flat_len hf, List.length_ofFn] at this
        exact this
      have hdiv : j / size < len := by rw [Nat.div_lt_iff_lt_mul h0]; exact hq
      have hmod : j % size < size := Nat.mod_lt _ h0
      have hjj : j = j / size * size + j % size := by rw [Nat.mul_comm]; exact (Nat.div_add_mod j size).symm
      rw [hjj, flat_at hf _ _ _ hmod, List.getElem?_ofFn, dif_pos hdiv] at hj
      simp only [Option.bind_some] at hj
      have := hg ⟨j / size, hdiv⟩ (j % size) hmod
      rw [hj, ← hjj] at this
      unfold Addr.add at this
      split at this
      · rename_i h0; rw [h0]; exact this
      · exact this
    · obtain ⟨i, rfl⟩ := (List.mem_ofFn).1 hy
      exact (hgg i).2
/-- A struct of one-cell fields: each field reads, and is within reach. -/
theorem struct_oneS {ts : TypeId} {fs : Array Field} {fuel : Nat} {cs : List Value} {x : DataW H × List MemPlace} (hs : P.underlying ts = some (.struct fs))
    (hone : ∀ (i : Nat) (f : Field), fs[i]? = some f → f.offset = i ∧ P.cellsOf f.type = 1) (hC : P.cellsOf ts = fs.size) (h : DataW.trod enc P w base spare held fuel ts cs = some x) (hw : InReach P ts x.1) :
    ∃ n, cs.length = fs.size ∧ ∀ (i : Nat) (f : Field), fs[i]? = some f → ∃ y, DataW.trod enc P w base spare held n f.type [cs.getD i undef] = some y ∧ InReach P f.type y.1 := by
  obtain ⟨xs, n, _, rfl, hl, hxl, hf⟩ := DataW.trod_struct hs h
  rw [hC] at hl
  refine ⟨n, hl, fun i f hi => ?_⟩
  have hlt : i < fs.size := (Array.getElem?_eq_some_iff.1 hi).1
  obtain ⟨ho, hc1⟩ := hone i f hi
  have g := hf i f hi
  rw [ho, hc1, take1_drop cs i undef (by omega), List.getElem?_eq_getElem (by omega)] at g
  refine ⟨_, g, fun m hm => hw m ?_⟩
  simp only [DataW.weights, hs]
  refine DataW.weights_mem_each (j := i) (t := f.type) (d := (xs[i]'(by omega)).1) ?_ ?_ m hm
  · rw [List.getElem?_map, Array.getElem?_toList, hi]; rfl
  · rw [List.getElem?_map, List.getElem?_eq_getElem (by omega)]; rfl
end
end Go.Proofs.YteabfalklgffmaaDoor
