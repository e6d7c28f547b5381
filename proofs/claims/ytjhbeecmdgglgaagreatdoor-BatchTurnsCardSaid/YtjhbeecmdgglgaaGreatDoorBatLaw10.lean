/-
  Plain law of batches: all sides turned round, as the law looks at it.
-/
import Derived.Test.YtjhbeecmdgglgaaGreatDoorBatLaw9
set_option linter.unusedSimpArgs false
set_option linter.unusedVariables false
namespace Go.Proofs.YtjhbeecmdgglgaaGreatDoor
open tm (fitsB)

theorem turn_row {p : Pl} {r : List Val} : rowE (turnPl p) 1 r = rowE p 2 r ∧ rowE (turnPl p) 2 r = rowE p 1 r := by
  constructor
  · unfold rowE
    rw [side_one, side_two]
    simp only [show ((1 : Int) = 1 ∨ (1 : Int) = 2) from .inl rfl, show ((2 : Int) = 1 ∨ (2 : Int) = 2) from .inr rfl, if_true]
    rfl
  · unfold rowE
    rw [side_two, side_one]
    simp only [show ((1 : Int) = 1 ∨ (1 : Int) = 2) from .inl rfl, show ((2 : Int) = 1 ∨ (2 : Int) = 2) from .inr rfl, if_true]
    rfl
theorem turnPl_good {p : Pl} {L R : List Cg} (h : GoodB2 p L R) (hk : p.kind ≠ 3) : GoodB2 (turnPl p) R L :=
  ⟨turn_check h.plan hk, by have := h.few; omega, h.rt, h.lt, fun x hx => by rw [turn_row.1]; exact h.rr x hx, fun x hx => by rw [turn_row.2]; exact h.lr x hx⟩
theorem NumsB.turn {L R : List Cg} (h : NumsB L R) : NumsB R L := ⟨h.r, h.l⟩
theorem turnR_good {n : Nat} {r : List Val} (h : GoodR r) : GoodR (turnR n r) := by
  unfold turnR
  refine ⟨fun x hx => ?_, ?_⟩
  · rcases List.mem_append.1 hx with hx | hx
    · exact h.good x (List.mem_of_mem_drop hx)
    · exact h.good x (List.mem_of_mem_take hx)
  · have := h.few
    rw [List.length_append, List.length_drop, List.length_take]
    omega
/-- What comes of all sides turned round: a view W, whose rows, turned back one by one, make the view that Join answers. -/
structure TurnedW (p : Pl) (L R : List Cg) (W : AV) : Prop where
  view : GoodA W
  cols : ∀ q ∈ W, p.right.length < q.1.length ∧ q.1.length ≤ 8
  nums : ∀ q ∈ W, 1 ≤ q.2 ∧ q.2 ≤ 4096
  good : ∀ r ∈ (expand W).map (turnR p.right.length), GoodR r
  few : ((expand W).map (turnR p.right.length)).length ≤ 4096
  same : viewR ((expand W).map (turnR p.right.length)) = viewR (joinL p L R)
theorem turned_all {p : Pl} {L R : List Cg} (h : batchE p L R = 0) (hk : p.kind ≠ 3) (hn : NumsB L R) : batchE (turnPl p) R L = 0 ∧ TurnedW p L R (viewR (joinL (turnPl p) R L)) := by
  have hg := batch_zero.1 h
  have hg' := turnPl_good hg hk
  have hr := joined_good hg' hn.turn
  have hl := joined_len (p := turnPl p) hg'.few
  obtain ⟨h1, h2⟩ := joined_view hg' hn.turn
  have hp := expand_perm hr (by omega)
  have hj := join_turned (p := p) (L := L) (R := R) hk (fun x hx => by have := (rowE_typ (hg.lr x hx)).1; rwa [side_one] at this) (fun x hx => by have := (rowE_typ (hg.rr x hx)).1; rwa [side_two] at this)
  have hpm := (hp.map (turnR p.right.length)).trans hj
  have hgood := joined_good hg hn
  have hlen := joined_len (p := p) hg.few
  have hgm : ∀ r ∈ (expand (viewR (joinL (turnPl p) R L))).map (turnR p.right.length), GoodR r := fun r hr => hgood r (hpm.mem_iff.1 hr)
  have hlm : ((expand (viewR (joinL (turnPl p) R L))).map (turnR p.right.length)).length ≤ 4096 := by rw [hpm.length_eq]; omega
  refine ⟨batch_zero.2 hg', h1, fun q hq => ?_, fun q hq => ?_, hgm, hlm, viewR_perm hgm hlm hpm⟩
  · have ht := (h2 q hq).len
    have hgq := (h1.rises.good q hq).few
    unfold allT at ht
    rw [List.length_append] at ht
    have e1 : (turnPl p).left.length = p.right.length := rfl
    have e2 : (turnPl p).right.length = p.left.length := rfl
    have e3 := (counts_short (check_ok hg.plan).2.2.1).l1
    omega
  · have hv := (viewN_tells _ _ rfl hr (by omega)).1
    have e : viewR (joinL (turnPl p) R L) = _ := viewR_N hr (by omega)
    rw [e] at hq
    have := hv.nums q hq
    omega
/-- The changes that the law lays: each row so often. -/
def turnsL (n : Nat) (W : AV) : List (Int × List Val) := (expand W).map fun r => (1, turnR n r)
theorem turns_step {n : Nat} {W : AV} {k : Nat} {q : List Val × Int} (h : W[k]? = some q) : turnsL n (W.take (k + 1)) = turnsL n (W.take k) ++ List.replicate q.2.toNat (1, turnR n q.1) := by
  unfold turnsL expand
  rw [List.take_add_one, h, List.flatMap_append, List.map_append]
  simp
theorem turns_rows (n : Nat) (W : AV) : turnsL n W = ((expand W).map (turnR n)).map fun r => (1, r) := by
  unfold turnsL
  rw [List.map_map]
  rfl
end Go.Proofs.YtjhbeecmdgglgaaGreatDoor
