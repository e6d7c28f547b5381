/-
  Plain law of batches: rows that are joined fit the plan's columns; what comes of joining and grouping.
-/
import Derived.Test.YtjhbeecmdgglgaaGreatDoorGrpX42
import Derived.Test.YtjhbeecmdgglgaaGreatDoorGrpX37
import Derived.Test.YtjhbeecmdgglgaaGreatDoorGrpX27
namespace Go.Proofs.YtjhbeecmdgglgaaGreatDoor
open tm (fitsB)

theorem fit_app {s t : List Int} {a b : List Val} (hl : a.length = s.length) (ha : allB fitOne (s.zip a) = true) (hb : allB fitOne (t.zip b) = true) : allB fitOne ((s ++ t).zip (a ++ b)) = true := by
  unfold allB at *
  rw [List.zip_append hl.symm, List.all_append, ha, hb]
  rfl
theorem fit_nulls (t : List Int) (n : Nat) : allB fitOne (t.zip (nullsR n)) = true := by
  unfold allB
  rw [List.all_eq_true]
  intro q hq
  obtain ⟨a, b⟩ := q
  have h := (List.of_mem_zip hq).2
  rw [(List.mem_replicate.1 h).2]
  rfl
theorem rowE_typ {p : Pl} {side : Int} {r : List Val} (h : rowE p side r = 0) : r.length = (sideT p side).length ∧ allB fitOne ((sideT p side).zip r) = true := by
  unfold rowE at h
  by_cases h0 : side = 1 ∨ side = 2
  · rw [if_pos h0] at h
    by_cases h1 : r.length = (sideT p side).length
    · rw [if_pos h1] at h
      by_cases h2 : firstNZ (r.map checkV) = 0
      · rw [if_pos h2] at h
        by_cases h3 : allB fitOne ((sideT p side).zip r) = true
        · exact ⟨h1, h3⟩
        · rw [if_neg h3] at h; omega
      · rw [if_neg h2] at h; exact absurd h h2
    · rw [if_neg h1] at h; omega
  · rw [if_neg h0] at h; omega
theorem joined_typed {p : Pl} {L R : List Cg} (h : GoodB2 p L R) (hn : NumsB L R) : ∀ r ∈ joinL p L R, TypedG p r := by
  have hg := joined_good h hn
  have gl : ∀ x ∈ L, x.2.length = p.left.length ∧ allB fitOne (p.left.zip x.2) = true := fun x hx => by have := rowE_typ (h.lr x hx); rwa [side_one] at this
  have gr : ∀ x ∈ R, x.2.length = p.right.length ∧ allB fitOne (p.right.zip x.2) = true := fun x hx => by have := rowE_typ (h.rr x hx); rwa [side_two] at this
  have ga : ∀ i, i < R.length → (rowAt R i).length = p.right.length ∧ allB fitOne (p.right.zip (rowAt R i)) = true := fun i hi => by
    have e : R.getD i zC = R[i] := by simp [List.getD, hi]
    unfold rowAt
    rw [e]
    exact gr _ (List.getElem_mem hi)
  have ln : ∀ n, (nullsR n).length = n := fun n => by unfold nullsR; rw [List.length_replicate]
  have mk : ∀ a b : List Val, a.length = p.left.length → b.length = p.right.length → allB fitOne (p.left.zip a) = true → allB fitOne (p.right.zip b) = true → (a ++ b).length = (allT p).length ∧ allB fitOne ((allT p).zip (a ++ b)) = true := fun a b h1 h2 h3 h4 => by
    unfold allT
    exact ⟨by rw [List.length_append, List.length_append, h1, h2], fit_app h1 h3 h4⟩
  intro r hr
  have hgr := hg r hr
  suffices hs : r.length = (allT p).length ∧ allB fitOne ((allT p).zip r) = true from ⟨hgr, hs.1, hs.2⟩
  unfold joinL at hr
  rcases List.mem_append.1 hr with hr | hr
  · obtain ⟨x, hx, hr⟩ := List.mem_flatMap.1 hr
    obtain ⟨g1, g2⟩ := gl x hx
    unfold pairsOf at hr
    split at hr
    · split at hr
      · rw [List.mem_singleton.1 hr]
        exact mk _ _ g1 (ln _) g2 (fit_nulls _ _)
      · cases hr
    · obtain ⟨i, hi, rfl⟩ := List.mem_map.1 hr
      have h1 := with_mem hi
      obtain ⟨g3, g4⟩ := ga i.toNat (by omega)
      exact mk _ _ g1 g3 g2 g4
  · obtain ⟨i, hi, hr⟩ := List.mem_flatMap.1 hr
    obtain ⟨g3, g4⟩ := ga i (List.mem_range.1 hi)
    unfold lateOf at hr
    split at hr
    · rw [List.mem_singleton.1 hr]
      exact mk _ _ (ln _) g3 (fit_nulls _ _) g4
    · cases hr
theorem viewR_good {rows : List (List Val)} (hg : ∀ r ∈ rows, GoodR r) (hl : rows.length ≤ 4096) : GoodA (viewR rows) := by
  rw [viewR_N hg hl]
  have h := (viewN_tells _ rows rfl hg hl).1
  exact ⟨by have := h.len; omega, h.rises, fun q hq => by have := h.nums q hq; omega⟩
theorem viewR_mem {rows : List (List Val)} (hg : ∀ r ∈ rows, GoodR r) (hl : rows.length ≤ 4096) {q : List Val × Int} (hq : q ∈ viewR rows) : q.1 ∈ rows := by
  refine (expand_perm hg hl).mem_iff.1 ?_
  have h1 := (viewR_good hg hl).nums q hq
  unfold expand
  exact List.mem_flatMap.2 ⟨q, hq, List.mem_replicate.2 ⟨by omega, rfl⟩⟩
theorem joined_view {p : Pl} {L R : List Cg} (h : GoodB2 p L R) (hn : NumsB L R) : GoodA (viewR (joinL p L R)) ∧ ∀ q ∈ viewR (joinL p L R), TypedG p q.1 := by
  have hl := joined_len (p := p) h.few
  have hg := joined_good h hn
  exact ⟨viewR_good hg (by omega), fun q hq => joined_typed h hn q.1 (viewR_mem hg (by omega) hq)⟩
theorem group_ok {p : Pl} {l : List Cnt} (hp : checkP p = 0) (hg : p.grouped = true) (h : GoodA (av l)) (ht : ∀ q ∈ av l, TypedG p q.1) : groupE p l = 0 := by
  have hm : ∀ r ∈ rsV l, TypedG p r := fun r hr => by
    obtain ⟨c, hc, rfl⟩ := List.mem_map.1 hr
    exact ht (c.r, c.n) (List.mem_map.2 ⟨c, hc, rfl⟩)
  have h1 : longB (allT p).length (rsV l) = true := by
    unfold longB
    rw [List.all_eq_true]
    intro r hr
    have := (hm r hr).len
    simpa using this
  have h2 : typB (allT p) (rsV l) = true := by
    unfold typB
    rw [List.all_eq_true]
    exact fun r hr => (hm r hr).fit
  unfold groupE rowsE
  rw [if_neg (fun e => e hp), if_neg (by rw [hg]; decide), if_neg (fun e => e (chk_of h)), if_neg (by rw [h1]; decide), if_neg (by rw [h2]; decide)]
theorem nums_ac {L R : List Chn} (hfl : ∀ x ∈ L, Fine x.r) (hfr : ∀ x ∈ R, Fine x.r) : NumsB (ac L) (ac R) := ⟨fun x hx y hy => by obtain ⟨z, hz, rfl⟩ := List.mem_map.1 hx; exact (hfl z hz).nums y hy, fun x hx y hy => by obtain ⟨z, hz, rfl⟩ := List.mem_map.1 hx; exact (hfr z hz).nums y hy⟩
/-- All's answer: its error and its view. -/
def allV (p : Pl) (L R : List Cg) : AV := if batchE p L R = 0 then (if p.grouped = true then groupV p (viewR (joinL p L R)) else viewR (joinL p L R)) else []
end Go.Proofs.YtjhbeecmdgglgaaGreatDoor
