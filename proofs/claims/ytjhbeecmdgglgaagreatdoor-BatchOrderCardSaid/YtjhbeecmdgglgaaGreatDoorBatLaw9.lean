/-
  Plain law of batches: in whatever order rows stand; two that are swapped.
-/
import Derived.Test.YtjhbeecmdgglgaaGreatDoorBatLaw8
namespace Go.Proofs.YtjhbeecmdgglgaaGreatDoor
open tm (fitsB)

def swapI {α : Type} (l : List α) (i k : Nat) : List α :=
  match l[i]?, l[k]? with
  | some x, some y => (l.set i y).set k x
  | _, _ => l
theorem swapI_perm {α : Type} (l : List α) (i k : Nat) : (swapI l i k).Perm l := by
  unfold swapI
  cases hi : l[i]? with
  | none => exact List.Perm.refl _
  | some x =>
    cases hk : l[k]? with
    | none => exact List.Perm.refl _
    | some y =>
      obtain ⟨h1, rfl⟩ := List.getElem?_eq_some_iff.1 hi
      obtain ⟨h2, rfl⟩ := List.getElem?_eq_some_iff.1 hk
      exact List.set_set_perm h1 h2
theorem swapI_at {α : Type} {l : List α} {i k : Nat} {x y : α} (hi : l[i]? = some x) (hk : l[k]? = some y) : swapI l i k = (l.set i y).set k x := by unfold swapI; rw [hi, hk]
theorem swapI_map {α β : Type} (f : α → β) (l : List α) (i k : Nat) : (swapI l i k).map f = swapI (l.map f) i k := by
  unfold swapI
  rw [List.getElem?_map, List.getElem?_map]
  cases l[i]? with
  | none => rfl
  | some x =>
    cases l[k]? with
    | none => rfl
    | some y => simp [List.map_set]
theorem allV_perm {p : Pl} {L R L' R' : List Cg} (h : batchE p L R = 0) (hn : NumsB L R) (hL : L.Perm L') (hR : R.Perm R') (hJ : (joinL p L R).Perm (joinL p L' R')) : batchE p L' R' = 0 ∧ allV p L' R' = allV p L R := by
  have hg := batch_zero.1 h
  have h' : batchE p L' R' = 0 := batch_zero.2 (good_perm hg hL hR)
  refine ⟨h', ?_⟩
  have hl := joined_len (p := p) hg.few
  unfold allV
  rw [if_pos h', if_pos h, viewR_perm (joined_good hg hn) (by omega) hJ]
/-- Are the right rows' times all unlike? -/
def unlikeT (R : List Cg) : Prop := R.Pairwise fun a b => a.1 ≠ b.1
theorem order_left {p : Pl} {L R L' : List Cg} (h : batchE p L R = 0) (hn : NumsB L R) (hL : L'.Perm L) : batchE p L' R = 0 ∧ allV p L' R = allV p L R :=
  allV_perm h hn hL.symm (List.Perm.refl _) (join_leftPerm hL.symm)
theorem order_right {p : Pl} {L R R' : List Cg} (h : batchE p L R = 0) (hn : NumsB L R) (hu : p.kind = 3 → unlikeT R) (hR : R'.Perm R) : batchE p L R' = 0 ∧ allV p L R' = allV p L R := by
  refine allV_perm h hn (List.Perm.refl _) hR.symm ?_
  by_cases hk : p.kind = 3
  · rw [join_rightPermT (batch_zero.1 h).plan hk (hu hk) hR.symm]
  · exact join_rightPerm hk hR.symm
/-- The law's own look: each row's time with those ahead of it. -/
def freshB (R : List Cg) (i : Nat) (k : Nat) : Bool := (List.range k).all fun j => !((R.getD i zC).1 == (R.getD j zC).1)
def unlikeR (R : List Cg) (i : Nat) : Bool := (List.range i).all fun j => freshB R j j
theorem freshB_step (R : List Cg) (i k : Nat) : freshB R i (k + 1) = (freshB R i k && !((R.getD i zC).1 == (R.getD k zC).1)) := by
  unfold freshB; rw [List.range_succ, List.all_append]; simp
theorem unlikeR_step (R : List Cg) (i : Nat) : unlikeR R (i + 1) = (unlikeR R i && freshB R i i) := by
  unfold unlikeR; rw [List.range_succ, List.all_append]; simp
theorem unlikeR_is {R : List Cg} (h : unlikeR R R.length = true) : unlikeT R := by
  unfold unlikeT
  rw [List.pairwise_iff_getElem]
  intro i j hi hj hij e
  unfold unlikeR at h
  rw [List.all_eq_true] at h
  have h1 := h j (List.mem_range.2 hj)
  unfold freshB at h1
  rw [List.all_eq_true] at h1
  have h2 := h1 i (List.mem_range.2 hij)
  simp [List.getD, hi, hj, e] at h2
end Go.Proofs.YtjhbeecmdgglgaaGreatDoor
