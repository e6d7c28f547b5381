/-
  Plain law of entries: where one stands, or would stand; what is kept.
-/
import Derived.Test.YteabfalklgffmaaDoorBufLaw2
set_option linter.unusedSimpArgs false
set_option linter.unusedVariables false
namespace Go.Proofs.YteabfalklgffmaaDoor

/-- Where an entry stands, or would stand, among entries that rise. -/
structure PosE (l : List En) (e : En) (i : Nat) : Prop where
  le : i ≤ l.length
  less : ∀ j x, j < i → l[j]? = some x → cmpE x e < 0
  more : ∀ j x, i ≤ j → l[j]? = some x → ¬ cmpE x e < 0
theorem PosE.tail {l : List En} {x e : En} {i : Nat} (h : PosE (x :: l) e (i + 1)) : cmpE x e < 0 ∧ PosE l e i :=
  ⟨h.less 0 x (by omega) rfl, ⟨by have := h.le; simp at this; omega, fun j y hj hy => h.less (j + 1) y (by omega) (by simpa using hy), fun j y hj hy => h.more (j + 1) y (by omega) (by simpa using hy)⟩⟩
theorem insE_at {l : List En} {e : En} {i : Nat} (h : PosE l e i) : insE l e = l.take i ++ e :: l.drop i := by
  induction l generalizing i with
  | nil => simp [insE]
  | cons x t ih =>
    cases i with
    | zero =>
      have := h.more 0 x (by omega) rfl
      rw [insE, if_neg this]
      rfl
    | succ i =>
      obtain ⟨h0, h1⟩ := h.tail
      rw [insE, if_pos h0, ih h1]
      rfl
/-- It is there just where the entry at its place is of its place. -/
theorem isE_at {l : List En} {e : En} {i : Nat} (hU : Up l) (h : PosE l e i) : isE l e = match l[i]? with | some x => decide (cmpE x e = 0) | none => false := by
  induction l generalizing i with
  | nil => simp [isE]
  | cons x t ih =>
    obtain ⟨hx, ht⟩ := List.pairwise_cons.1 hU
    cases i with
    | zero =>
      have h0 := h.more 0 x (by omega) rfl
      have hr : isE t e = false := by
        rw [isE_no]
        intro y hy
        have h1 := hx y hy
        intro h2
        have h3 : cmpE x e = cmpE x y := by
          have := cmpE_same h2 x
          rw [cmpE_flip e x, cmpE_flip y x, this]
        omega
      show (decide (cmpE x e = 0) || isE t e) = _
      rw [hr, Bool.or_false]
      rfl
    | succ i =>
      obtain ⟨h0, h1⟩ := h.tail
      show (decide (cmpE x e = 0) || isE t e) = _
      rw [decide_eq_false (by omega), Bool.false_or, ih ht h1]
      simp
theorem isE_app (a b : List En) (e : En) : isE (a ++ b) e = (isE a e || isE b e) := List.any_append
theorem isE_flat (l : List (List En)) (e : En) : isE l.flatten e = l.any fun x => isE x e := by
  induction l with
  | nil => rfl
  | cons a t ih => rw [List.flatten_cons, isE_app, ih]; rfl
theorem siftB_id {b : Bu} (h : ∀ l ∈ b.runs, l ≠ []) : siftB b (fun e => [e]) = b := by
  obtain ⟨limit, mem, runs⟩ := b
  unfold siftB
  have e1 : ∀ l : List En, l.flatMap (fun e => [e]) = l := fun l => by induction l with
    | nil => rfl
    | cons a t ih => rw [List.flatMap_cons, ih]; rfl
  simp only [e1, List.map_id']
  congr 1
  rw [List.filter_eq_self]
  intro l hl
  have := h l hl
  cases l <;> simp_all
theorem atE_iff {key : List UInt8} {t s : Int} {e : En} (m : Bool) (r : List Val) : atE key t s e = decide (cmpE e ⟨key, t, s, r, m⟩ = 0) := by
  unfold atE
  by_cases h : cmpE e ⟨key, t, s, r, m⟩ = 0
  · rw [decide_eq_true h]
    obtain ⟨h1, h2, h3⟩ := cmpE_zero.1 h
    simp only at h1 h2 h3
    simp [h1, h2, h3]
  · rw [decide_eq_false h]
    cases hb : ((e.key == key) && (e.t == t) && (e.s == s)) with
    | false => rfl
    | true =>
      simp only [Bool.and_eq_true, beq_iff_eq] at hb
      exact absurd (cmpE_zero.2 ⟨hb.1.1, hb.1.2, hb.2⟩) h
end Go.Proofs.YteabfalklgffmaaDoor
