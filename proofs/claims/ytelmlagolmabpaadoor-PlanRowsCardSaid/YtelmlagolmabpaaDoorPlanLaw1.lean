/-
  Plans, plain law: the reference's form is the program's.
-/
import Derived.Test.YtelmlagolmabpaaDoorPlan9
set_option linter.unusedSimpArgs false
set_option linter.unusedVariables false
namespace Go.Proofs.YtelmlagolmabpaaDoor
open Go.RowKit Go.Maps

theorem once_iff (l : List Int) : onceB l = true ↔ l.Nodup := by
  constructor
  · intro h
    rw [List.Nodup, List.pairwise_iff_getElem]
    intro i j hi hj hij
    unfold onceB at h
    rw [List.all_eq_true] at h
    have h1 := h j (List.mem_range.2 hj)
    rw [List.all_eq_true] at h1
    have h2 := h1 i (List.mem_range.2 hij)
    simp [hi, hj] at h2
    exact fun e => h2 e.symm
  · intro h
    rw [List.Nodup, List.pairwise_iff_getElem] at h
    refine once_yes fun i k hi hk => ?_
    have hkl : k < l.length := by omega
    simp only [List.getD_eq_getElem?_getD, List.getElem?_eq_getElem hi, List.getElem?_eq_getElem hkl, Option.getD_some]
    exact fun e => h k i hkl hi hk e.symm

theorem unlR_iff (n : Int) : ∀ (l seen : List Int), unlR n seen l = true ↔ (∀ x ∈ l, btw x 0 (n - 1) = true) ∧ (∀ x ∈ l, x ∉ seen) ∧ l.Nodup
  | [], seen => by simp [unlR]
  | x :: r, seen => by
    simp only [unlR, Bool.and_eq_true, unlR_iff n r, beq_iff_eq, List.count_eq_zero, List.nodup_cons, List.mem_cons, List.mem_append, List.mem_nil_iff, or_false, forall_eq_or_imp]
    constructor
    · rintro ⟨⟨h1, h2⟩, h3, h4, h5⟩
      refine ⟨⟨h1, h3⟩, ⟨h2, fun y hy => fun e => h4 y hy (.inl e)⟩, fun hx => h4 x hx (.inr rfl), h5⟩
    · rintro ⟨⟨h1, h3⟩, ⟨h2, h4⟩, h6, h5⟩
      refine ⟨⟨h1, h2⟩, h3, fun y hy e => ?_, h5⟩
      rcases e with e | e
      · exact h4 y hy e
      · subst e; exact h6 hy

theorem unl_eq (l : List Int) (n : Int) : unlikeB l n = (onceB l && allB (fun x => btw x 0 (n - 1)) l) := by
  rw [Bool.eq_iff_iff, Bool.and_eq_true, once_iff]
  unfold unlikeB allB
  rw [unlR_iff, List.all_eq_true]
  constructor
  · rintro ⟨h1, -, h3⟩; exact ⟨h3, h1⟩
  · rintro ⟨h3, h1⟩; exact ⟨h1, by simp, h3⟩

def pairR (left right : List Int) (q : Int × Int) : Bool := btw q.1 0 ((left.length : Int) - 1) && (btw q.2 0 ((right.length : Int) - 1) && pairOk left right q)
def formR (p : Pl) : Bool := !(decide (p.high < p.low)) && ((p.lkeys.length == p.rkeys.length) && (onceB p.lkeys && (onceB p.rkeys && (onceB p.group && (allB (pairR p.left p.right) (p.lkeys.zip p.rkeys) && (allB (fun x => btw x 0 (((p.left ++ p.right).length : Int) - 1)) p.group && allB (aggOk (p.left ++ p.right)) p.aggs))))))

theorem form_eq (p : Pl) : formR p = formB p := by
  unfold formR formB
  by_cases hl : p.lkeys.length = p.rkeys.length
  · rw [Bool.eq_iff_iff]
    rw [unl_eq, unl_eq, unl_eq]
    simp only [Bool.and_eq_true]
    have hz : allB (pairR p.left p.right) (p.lkeys.zip p.rkeys) = true ↔ allB (fun x => btw x 0 ((p.left.length : Int) - 1)) p.lkeys = true ∧ allB (fun x => btw x 0 ((p.right.length : Int) - 1)) p.rkeys = true ∧ allB (pairOk p.left p.right) (p.lkeys.zip p.rkeys) = true := by
      unfold allB pairR
      simp only [List.all_eq_true, Bool.and_eq_true]
      constructor
      · intro h
        refine ⟨fun x hx => ?_, fun x hx => ?_, fun q hq => (h q hq).2.2⟩
        · rw [← List.map_fst_zip (l₁ := p.lkeys) (l₂ := p.rkeys) (by omega)] at hx
          obtain ⟨q, hq, rfl⟩ := List.mem_map.1 hx
          exact (h q hq).1
        · rw [← List.map_snd_zip (l₁ := p.lkeys) (l₂ := p.rkeys) (by omega)] at hx
          obtain ⟨q, hq, rfl⟩ := List.mem_map.1 hx
          exact (h q hq).2.1
      · rintro ⟨h1, h2, h3⟩ q hq
        have := List.of_mem_zip (a := q.1) (b := q.2) hq
        exact ⟨h1 _ this.1, h2 _ this.2, h3 q hq⟩
    rw [hz]
    constructor
    · rintro ⟨a, b, c, d, e, ⟨f, g, h⟩, i, j⟩
      exact ⟨a, b, ⟨c, f⟩, ⟨d, g⟩, ⟨e, i⟩, h, j⟩
    · rintro ⟨a, b, ⟨c, f⟩, ⟨d, g⟩, ⟨e, i⟩, h, j⟩
      exact ⟨a, b, c, d, e, ⟨f, g, h⟩, i, j⟩
  · have : (p.lkeys.length == p.rkeys.length) = false := by simpa using hl
    rw [this]
    simp

end Go.Proofs.YtelmlagolmabpaaDoor
