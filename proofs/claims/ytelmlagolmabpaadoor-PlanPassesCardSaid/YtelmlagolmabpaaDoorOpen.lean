/-
  How arguments are opened: a slice of flat elements reads as a list.
-/
import Derived.Test.YtelmlagolmabpaaDoorBase
import Derived.ProofKit
import Derived.OpenShut
import Derived.Deep.Slices
import Derived.Deep.Strs
namespace Go.Proofs.YtelmlagolmabpaaDoor
open Go.ChangeShapes Go.WideShapes Go.RowKit Go.Deep

/-- Flat cells of a list of elements of one size: the cell j of element i. -/
theorem flat_at {α : Type} {f : α → List Value} {size : Nat} (hf : ∀ a, (f a).length = size) (l : List α) (i j : Nat) (hj : j < size) : (l.flatMap f)[i * size + j]? = (l[i]?).bind fun a => (f a)[j]? := by
  induction l generalizing i with
  | nil => simp
  | cons a l ih =>
    rw [List.flatMap_cons, List.getElem?_append, hf a]
    cases i with
    | zero => simp [hj]
    | succ i =>
      have e : (i + 1) * size + j - size = i * size + j := by rw [Nat.add_mul]; omega
      rw [if_neg (by rw [Nat.add_mul]; omega), e, ih]
      simp
theorem flat_len {α : Type} {f : α → List Value} {size : Nat} (hf : ∀ a, (f a).length = size) (l : List α) : (l.flatMap f).length = l.length * size := by
  induction l with
  | nil => simp
  | cons a l ih => rw [List.flatMap_cons, List.length_append, hf a, ih, List.length_cons, Nat.add_mul]; omega

section
variable {H : Type} {enc : TypeId × Value → H} {P : Program} {w : World} {base : Nat} {spare : Nat → Bool} {held : Bool}
/-- A slice whose elements are flat. -/
theorem open_flat {t e : TypeId} {fuel : Nat} {cs : List Value} {x : DataW H × List MemPlace} {α : Type} {f : α → List Value} {size : Nat} (hf : ∀ a, (f a).length = size) (h0 : 0 < size)
    (ht : P.underlying t = some (.slice e)) (hC : P.cellsOf e = size) (hel : ∀ fuel cs x, DataW.trod enc P w base spare held fuel e cs = some x → ∃ a, cs = f a)
    (h : DataW.trod enc P w base spare held fuel t cs = some x) : ∃ (v : Value) (l : List α), cs = [v] ∧ Sl w v l.length (l.flatMap f) := by
  rcases open_slice ht h with ⟨h0, -⟩ | ⟨a, len, cap, m, n, D, Pl, rfl, -, hl, hm, hmm, -, hi⟩
  · exact ⟨_, [], h0, Sl.nil_ w⟩
  · have hlm : len ≤ m := by rw [hmm]; split <;> omega
    have hall : ∀ i : Fin len, ∃ y : α, ∀ j, j < size → w.cell? (a.add (i.val * size + j)) = (f y)[j]? := by
      intro i
      obtain ⟨cs', hc, ht'⟩ := hi i.val (by omega)
      obtain ⟨y, rfl⟩ := hel _ _ _ ht'
      obtain ⟨-, -, hat⟩ := World.cells?_some hc
      refine ⟨y, fun j hj => ?_⟩
      have := hat j (by rw [hC]; exact hj)
      rw [hC, Go.Deep.add_add] at this
      exact this
    obtain ⟨g, hg⟩ := Classical.axiomOfChoice hall
    refine ⟨_, List.ofFn g, rfl, ?_⟩
    rw [List.length_ofFn]
    refine ⟨_, _, rfl, hl, hm, (fun h => by cases h), fun hne => ?_⟩
    have hlen : 0 < len := by
      rcases Nat.eq_zero_or_pos len with h1 | h1
      · subst h1; simp at hne
      · exact h1
    obtain ⟨b, off, spot⟩ := a
    have hc0 := hg ⟨0, hlen⟩ 0 h0
    rw [List.getElem?_eq_getElem (by rw [hf]; exact h0)] at hc0
    have hs : spot = none := by simpa [Addr.add] using World.cell?_spot hc0
    subst hs
    refine ⟨b, off, rfl, fun j u hj => ?_⟩
    have hq : j < len * size := by
      have := (List.getElem?_eq_some_iff.1 hj).1
      rw [flat_len hf, List.length_ofFn] at this
      exact this
    have hdiv : j / size < len := by rw [Nat.div_lt_iff_lt_mul h0]; exact hq
    have hmod : j % size < size := Nat.mod_lt _ h0
    have hjj : j = j / size * size + j % size := by rw [Nat.mul_comm]; exact (Nat.div_add_mod j size).symm
    rw [hjj, flat_at hf _ _ _ hmod, List.getElem?_ofFn, dif_pos hdiv] at hj
    simp only [Option.bind_some] at hj
    have := hg ⟨j / size, hdiv⟩ (j % size) hmod
    rw [hj, ← hjj] at this
    unfold Addr.add at this
    split at this
    · rename_i h0; rw [h0]; exact this
    · exact this
end
end Go.Proofs.YtelmlagolmabpaaDoor
