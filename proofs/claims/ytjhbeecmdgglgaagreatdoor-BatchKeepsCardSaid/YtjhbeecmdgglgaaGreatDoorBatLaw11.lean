/-
  Plain law of batches: what each mode keeps, as the law looks at it.
-/
import Derived.Test.YtjhbeecmdgglgaaGreatDoorGrpX42
import Derived.Test.YtjhbeecmdgglgaaGreatDoorBatLaw9
import Derived.Test.YtjhbeecmdgglgaaGreatDoorGrpX44
namespace Go.Proofs.YtjhbeecmdgglgaaGreatDoor
open tm (fitsB)

theorem diff_keeps {a b : List Cnt} (ha : GoodA (av a)) (hb : GoodA (av b)) (h : (tell (mergeD (av a) (av b))).length ≤ 4096) : diffS a b = (tell (mergeD (av a) (av b)), 0) := by
  unfold diffS
  rw [if_neg (fun e => e (chk_of ha)), if_neg (fun e => e (chk_of hb)), told_yes h, if_pos rfl]
/-- The views of a join, of the same in Inner, and of the same in LeftOuter. -/
structure KeepsW (p : Pl) (L R : List Cg) (A B V : AV) : Prop where
  inn : GoodA A
  out : GoodA B
  all : GoodA V
  ins : ∀ c ∈ tell (mergeD A V), c.1 = 1
  few : (tell (mergeD A V)).length ≤ 4096
  more : ∀ x ∈ L, cameN x.2 L ≤ leftN x.2 B
  just : p.kind = 3 → ∀ x ∈ L, cameN x.2 L = leftN x.2 B
theorem keeps_all {p : Pl} {L R : List Cg} (h : batchE p L R = 0) (hn : NumsB L R) : batchE (withM p 1) L R = 0 ∧ batchE (withM p 2) L R = 0 ∧
    KeepsW p L R (viewR (joinL (withM p 1) L R)) (viewR (joinL (withM p 2) L R)) (viewR (joinL p L R)) := by
  have hg := batch_zero.1 h
  have h1 := withM_good hg (.inl rfl)
  have h2 := withM_good hg (.inr rfl)
  have l0 := joined_len (p := p) hg.few
  have l1 := joined_len (p := withM p 1) hg.few
  have l2 := joined_len (p := withM p 2) hg.few
  have g0 := joined_good hg hn
  have g1 := joined_good h1 hn
  have g2 := joined_good h2 hn
  obtain ⟨d1, d2⟩ := diff_more g1 g0 (by omega) (by omega) (inner_sub p L R)
  have hL : ∀ x ∈ L, x.2.length = p.left.length := fun x hx => by have := (rowE_typ (hg.lr x hx)).1; rwa [side_one] at this
  refine ⟨batch_zero.2 h1, batch_zero.2 h2, (joined_view h1 hn).1, (joined_view h2 hn).1, (joined_view hg hn).1, d1, d2, fun x hx => ?_, fun hk x hx => ?_⟩
  · rw [leftN_rows g2 (by omega)]
    exact (outer_keeps p.left.length hL (hL x hx)).1
  · rw [leftN_rows g2 (by omega)]
    exact (outer_keeps p.left.length hL (hL x hx)).2 hk
/-- How often a row came, among the first so many. -/
def cameK (r : List Val) (L : List Cg) (k : Nat) : Int := cameN r (L.take k)
theorem came_step {r : List Val} {L : List Cg} {k : Nat} {x : Cg} (h : L[k]? = some x) : cameN r (L.take (k + 1)) = cameN r (L.take k) + if x.2 = r then 1 else 0 := by
  unfold cameN
  rw [List.take_add_one, h, List.filter_append, List.length_append]
  by_cases e : x.2 = r
  · simp [e]
  · simp [e]
theorem came_few (r : List Val) (L : List Cg) : 0 ≤ cameN r L ∧ cameN r L ≤ L.length := by
  unfold cameN
  have := List.length_filter_le (fun y : Cg => decide (y.2 = r)) L
  omega
theorem leftN_app (r : List Val) : ∀ (A B : AV), leftN r (A ++ B) = leftN r A + leftN r B
  | [], B => by show leftN r B = 0 + leftN r B; omega
  | q :: A, B => by
    show (if startsR r q.1 = true then q.2 else 0) + leftN r (A ++ B) = ((if startsR r q.1 = true then q.2 else 0) + leftN r A) + leftN r B
    rw [leftN_app r A B]
    omega
theorem leftN_step {r : List Val} {A : AV} {k : Nat} {q : List Val × Int} (h : A[k]? = some q) : leftN r (A.take (k + 1)) = leftN r (A.take k) + if startsR r q.1 = true then q.2 else 0 := by
  rw [List.take_add_one, h, leftN_app]
  show _ + ((if startsR r q.1 = true then q.2 else 0) + 0) = _
  omega
theorem leftN_few {r : List Val} : ∀ {A : AV}, (∀ q ∈ A, 1 ≤ q.2 ∧ q.2 ≤ 1073741824) → 0 ≤ leftN r A ∧ leftN r A ≤ A.length * 1073741824
  | [], _ => ⟨Int.le_refl _, by show (0 : Int) ≤ _; simp⟩
  | q :: A, h => by
    have h0 := h q (by simp)
    have ih := leftN_few (r := r) (A := A) fun s hs => h s (by simp [hs])
    show 0 ≤ (if startsR r q.1 = true then q.2 else 0) + leftN r A ∧ (if startsR r q.1 = true then q.2 else 0) + leftN r A ≤ _
    rw [List.length_cons]
    split <;> omega
end Go.Proofs.YtjhbeecmdgglgaaGreatDoor
