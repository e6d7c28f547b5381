/-
  The reference's into: an entry laid in at its place: memory.
-/
import Derived.Test.YteabfalklgffmaaDoorBufM6
import Derived.Test.YteabfalklgffmaaDoorBufM7
set_option linter.unusedSimpArgs false
set_option linter.unusedVariables false
namespace Go.Proofs.YteabfalklgffmaaDoor
open Go.RowKit

theorem entSize : (Tryd.prog.info? 28).map (·.size) = some 5 := by kernel_rfl
theorem entCells_len (l : List Ent) : (entCells l).length = l.length * 5 := flat_len Ent.cells_len l
theorem ent_take (l : List Ent) (k : Nat) : (entCells l).take (k * 5) = entCells (l.take k) := flat_take Ent.cells_len l k
theorem ent_drop (l : List Ent) (k : Nat) : (entCells l).drop (k * 5) = entCells (l.drop k) := flat_drop Ent.cells_len l k
theorem own_shiftE {w : World} {base g m cap i c1 c2 : Nat} {xs : List Value} (h : w.ownsRow base 28 5 (.slice (some ⟨g, 0, none⟩) (m + 1) cap) (m + 1) xs) (hi : i < m) (h1 : ∀ v ∈ xs, v.oneCell' = true) :
    ∃ w', (∀ ty, (Builtin.copy_ #[22, 22] ty #[.slice (some ⟨g, (i + 1) * 5, none⟩) (m - i) c1, .slice (some ⟨g, i * 5, none⟩) (m + 1 - i) c2]).run Tryd.prog w = .ok (goInt (m - i : Nat)) w') ∧
      w'.ownsRow base 28 5 (.slice (some ⟨g, 0, none⟩) (m + 1) cap) (m + 1) (xs.take ((i + 1) * 5) ++ (xs.drop (i * 5)).take ((m - i) * 5)) ∧ w.grownBy w' (some g) := by
  have hx := h.1
  rcases h.2 with ⟨h', -⟩ | ⟨g', cap', cur, h', hb, hg, hn, hc, hsz, ht⟩
  · cases h'
  · injection h' with e1 e2 e3
    injection e1 with e1
    injection e1 with e1
    subst e1 e3
    have hlen : ((xs.drop (i * 5)).take ((m - i) * 5)).length = (m - i) * 5 := by rw [List.length_take, List.length_drop, hx]; omega
    have hmin : Nat.min (m + 1 - i) (m - i) = m - i := by show min _ _ = _; omega
    have hcur : (m + 1) * 5 ≤ cur.size := by rw [hsz]; exact Nat.mul_le_mul_right _ hn
    have hrun := fun ty => run_copy_wide (P := Tryd.prog) w 22 22 ty 28 g ((i + 1) * 5) (m - i) c1 ⟨g, i * 5, none⟩ (m + 1 - i) c2 5 cur 28 ((xs.drop (i * 5)).take ((m - i) * 5)) Tryd.underlying22 entSize hg
      (by rw [hlen, hmin]) (fun j v hj => by
        rw [List.getElem?_take] at hj
        split at hj
        · rw [List.getElem?_drop] at hj
          have := h.cellAt (i * 5 + j) (by have := (List.getElem?_eq_some_iff.1 hj).1; omega)
          rw [hj] at this
          unfold Addr.add
          split
          · rename_i h0; subst h0; simpa using this
          · exact this
        · cases hj) (by rw [hlen]; omega) (fun v hv => h1 v (List.mem_of_mem_drop (List.mem_of_mem_take hv)))
    simp only [hmin] at hrun
    refine ⟨_, hrun, ⟨?_, .inr ⟨g, cap, _, rfl, hb, setRow_heap w g cur _ 28 _ hg, hn, hc, ?_, ?_⟩⟩, ⟨rfl, rfl, rfl, by simp [World.setRow], fun k hk hne => setRow_other w g k _ (fun e => hne (by rw [e]))⟩⟩
    · rw [List.length_append, hlen, List.length_take, hx]; omega
    · simp only [List.size_toArray, List.length_append, List.length_take, List.length_drop, Array.length_toList, hlen]; omega
    · have e1 : cur.toList.take ((i + 1) * 5) = xs.take ((i + 1) * 5) := by rw [← ht, List.take_take, Nat.min_eq_left (by omega)]
      rw [e1]
      have e4 : (xs.take ((i + 1) * 5) ++ (xs.drop (i * 5)).take ((m - i) * 5)).length = (m + 1) * 5 := by rw [List.length_append, hlen, List.length_take, hx]; omega
      exact List.take_left' e4

theorem OwnE.sub {w w' : World} {base : Nat} {v v' : Value} {l l' : List Ent} (h : OwnE w base v l) (hown : w'.ownsRow base 28 5 v' l'.length (entCells l')) (hg : w.grownBy w' v.ownBlock) (hat : v'.ownBlock = v.ownBlock ∨ v'.ownBlock = some w.heap.size) (hsub : ∀ c ∈ l', c ∈ l) : OwnE w' base v' l' := by
  refine ⟨hown, fun d hd => sl_grown (h.rows d (hsub d hd)) hg (fun k hk => (h.far d (hsub d hd) k hk).2.2), fun d hd k hk => ?_⟩
  obtain ⟨h0, h1, h2⟩ := h.far d (hsub d hd) k hk
  refine ⟨h0, Nat.lt_of_lt_of_le h1 hg.size, ?_⟩
  rcases hat with hat | hat
  · rw [hat]; exact h2
  · rw [hat]; intro e; injection e with e; omega

def setE (w : World) (g i : Nat) (c : Ent) : World :=
  ((((w.setCell ⟨g, i * 5, none⟩ (.string (str c.e.key))).setCell ⟨g, i * 5 + 1, none⟩ (.int .i64 c.e.t)).setCell ⟨g, i * 5 + 2, none⟩ (.int .i64 c.e.s)).setCell ⟨g, i * 5 + 3, none⟩ c.v).setCell ⟨g, i * 5 + 4, none⟩ (.bool c.e.met)
/-- The entry at a place laid anew. -/
theorem ent_lay (a b : List Ent) (x c : Ent) : (((((entCells (a ++ x :: b)).set (a.length * 5) (.string (str c.e.key))).set (a.length * 5 + 1) (.int .i64 c.e.t)).set (a.length * 5 + 2) (.int .i64 c.e.s)).set (a.length * 5 + 3) c.v).set (a.length * 5 + 4) (.bool c.e.met) = entCells (a ++ c :: b) := by
  induction a with
  | nil => simp [entCells, Ent.cells]
  | cons y a ih =>
    have e1 : (y :: a).length * 5 = a.length * 5 + 1 + 1 + 1 + 1 + 1 := by simp; omega
    rw [e1]
    unfold entCells at ih ⊢
    simp only [List.cons_append, List.flatMap_cons]
    rw [← ih]
    simp [Ent.cells]
theorem OwnE.lay {w : World} {base g n cap : Nat} {a b : List Ent} {x c : Ent} (h : OwnE w base (.slice (some ⟨g, 0, none⟩) n cap) (a ++ x :: b)) (hn : n = (a ++ x :: b).length) (hc : Sl w c.v c.e.r.length (rowCells c.e.r)) (hf : ∀ k, c.v.ownBlock = some k → base ≤ k ∧ k < w.heap.size ∧ k ≠ g) :
    OwnE (setE w g a.length c) base (.slice (some ⟨g, 0, none⟩) n cap) (a ++ c :: b) ∧ w.grownBy (setE w g a.length c) (some g) := by
  unfold setE
  have ho := h.own
  rw [← hn] at ho
  obtain ⟨h1, g1⟩ := ho.stored (a.length * 5) (.string (str c.e.key))
  obtain ⟨h2, g2⟩ := h1.stored (a.length * 5 + 1) (.int .i64 c.e.t)
  obtain ⟨h3, g3⟩ := h2.stored (a.length * 5 + 2) (.int .i64 c.e.s)
  obtain ⟨h4, g4⟩ := h3.stored (a.length * 5 + 3) c.v
  obtain ⟨h5, g5⟩ := h4.stored (a.length * 5 + 4) (.bool c.e.met)
  have hg := grown_trans (grown_trans (grown_trans (grown_trans g1 g2) g3) g4) g5
  rw [ent_lay] at h5
  have hlen : (a ++ c :: b).length = n := by rw [hn]; simp
  have hd : ∀ d ∈ a ++ c :: b, Sl w d.v d.e.r.length (rowCells d.e.r) ∧ ∀ k, d.v.ownBlock = some k → base ≤ k ∧ k < w.heap.size ∧ k ≠ g := by
    intro d hd
    rcases List.mem_append.1 hd with hd | hd
    · exact ⟨h.rows d (by simp [hd]), fun k hk => by obtain ⟨z, p, q⟩ := h.far d (by simp [hd]) k hk; exact ⟨z, p, fun e => q (by rw [e]; rfl)⟩⟩
    · rcases List.mem_cons.1 hd with rfl | hd
      · exact ⟨hc, hf⟩
      · exact ⟨h.rows d (by simp [hd]), fun k hk => by obtain ⟨z, p, q⟩ := h.far d (by simp [hd]) k hk; exact ⟨z, p, fun e => q (by rw [e]; rfl)⟩⟩
  refine ⟨⟨by rw [hlen]; exact h5, fun d hd' => sl_grown (hd d hd').1 hg (fun k hk e => ((hd d hd').2 k hk).2.2 (by injection e with e; exact e.symm)), fun d hd' k hk => ?_⟩, hg⟩
  obtain ⟨z, p, q⟩ := (hd d hd').2 k hk
  exact ⟨z, Nat.lt_of_lt_of_le p hg.size, fun e => q (by simp [Value.ownBlock] at e; exact e.symm)⟩
theorem ent_split {l : List Ent} {i : Nat} (hi : i < l.length) (z : Ent) : (l ++ [z]).take (i + 1) = l.take i ++ [l[i]] ∧ ((l ++ [z]).drop i).take (l.length - i) = l.drop i := by
  constructor
  · rw [List.take_append_of_le_length (by omega), List.take_add_one, List.getElem?_eq_getElem hi]; rfl
  · rw [List.drop_append_of_le_length (by omega), List.take_append_of_le_length (by rw [List.length_drop]; omega), List.take_of_length_le (by rw [List.length_drop]; omega)]
theorem ens_lay (l : List Ent) (i : Nat) (c : Ent) : ens (l.take i ++ c :: l.drop i) = (ens l).take i ++ c.e :: (ens l).drop i := by
  unfold ens
  simp [List.map_take, List.map_drop]

end Go.Proofs.YteabfalklgffmaaDoor
