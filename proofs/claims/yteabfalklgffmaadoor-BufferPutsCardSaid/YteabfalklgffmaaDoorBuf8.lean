/-
  Entries in a row of one's own.
-/
import Derived.Test.YteabfalklgffmaaDoorBuf4
set_option linter.unusedSimpArgs false
set_option linter.unusedVariables false
namespace Go.Proofs.YteabfalklgffmaaDoor
open Go.RowKit

theorem entI : EInfo Tryd.prog 28 5 64 := by
  have h : (Tryd.prog.info? 28).map (fun i => (i.zero, i.size, i.bytes)) = some (some (.agg #[.string ⟨#[]⟩, .int .i64 0, .int .i64 0, .slice none 0 0, .bool false]), 5, 64) := by kernel_rfl
  obtain ⟨i, hi, h1, h2, h3⟩ := info_parts h
  exact ⟨i, _, hi, h1, h2, h3, rfl, by omega⟩
/-- Changes in a row of one's own, their rows too. -/
structure OwnE (w : World) (base : Nat) (v : Value) (l : List Ent) : Prop where
  own : w.ownsRow base 28 5 v l.length (entCells l)
  rows : ∀ c ∈ l, Sl w c.v c.e.r.length (rowCells c.e.r)
  far : ∀ c ∈ l, ∀ k, c.v.ownBlock = some k → base ≤ k ∧ k < w.heap.size ∧ v.ownBlock ≠ some k
theorem OwnE.ents {w : World} {base : Nat} {v : Value} {l : List Ent} (h : OwnE w base v l) : Ents w v l := ⟨Sl.of_own h.own, h.rows⟩
theorem OwnE.below {w w' : World} {base : Nat} {v : Value} {l : List Ent} (h : OwnE w base v l) (hb : Below w.heap.size w w') : OwnE w' base v l :=
  ⟨own_below h.own hb, fun c hc => (h.rows c hc).below hb, fun c hc k hk => ⟨(h.far c hc k hk).1, Nat.lt_of_lt_of_le (h.far c hc k hk).2.1 hb.size, (h.far c hc k hk).2.2⟩⟩
theorem OwnE.alloc {w : World} {base : Nat} {v : Value} {l : List Ent} (h : OwnE w base v l) (o : Obj) : OwnE (w.alloc o) base v l := h.below (below_alloc w o)
theorem OwnE.drew {w : World} {base : Nat} {v : Value} {l : List Ent} (h : OwnE w base v l) : OwnE w.drew base v l := ⟨h.own, h.rows, h.far⟩
theorem OwnE.nil (w : World) (base : Nat) : OwnE w base (.slice none 0 0) [] := ⟨⟨rfl, .inl ⟨rfl, rfl⟩⟩, nofun, nofun⟩
theorem entCells_app (a b : List Ent) : entCells (a ++ b) = entCells a ++ entCells b := List.flatMap_append
theorem OwnE.snoc {w w' : World} {base : Nat} {v v' : Value} {l : List Ent} {c : Ent} (h : OwnE w base v l) (hown : w'.ownsRow base 28 5 v' (l.length + 1) (entCells l ++ c.cells)) (hg : w.grownBy w' v.ownBlock) (hat : v'.ownBlock = v.ownBlock ∨ v'.ownBlock = some w.heap.size)
    (hc : Sl w c.v c.e.r.length (rowCells c.e.r)) (hf : ∀ k, c.v.ownBlock = some k → base ≤ k ∧ k < w.heap.size ∧ v.ownBlock ≠ some k) : OwnE w' base v' (l ++ [c]) := by
  have hfar : ∀ d ∈ l ++ [c], Sl w d.v d.e.r.length (rowCells d.e.r) ∧ ∀ k, d.v.ownBlock = some k → base ≤ k ∧ k < w.heap.size ∧ v.ownBlock ≠ some k := by
    intro d hd
    rcases List.mem_append.1 hd with hd | hd
    · exact ⟨h.rows d hd, h.far d hd⟩
    · simp only [List.mem_singleton] at hd; subst hd; exact ⟨hc, hf⟩
  refine ⟨?_, fun d hd => sl_grown (hfar d hd).1 hg (fun k hk => ((hfar d hd).2 k hk).2.2), fun d hd k hk => ?_⟩
  · rw [entCells_app, List.length_append]
    simpa [entCells] using hown
  · obtain ⟨h0, h1, h2⟩ := (hfar d hd).2 k hk
    refine ⟨h0, Nat.lt_of_lt_of_le h1 hg.size, fun e => ?_⟩
    rcases hat with e' | e'
    · exact h2 (e' ▸ e)
    · rw [e'] at e
      injection e with e
      omega
theorem OwnE.set {w : World} {base : Nat} {v : Value} {l : List Ent} (h : OwnE w base v l) {p : Addr} (hp : p.block < base) (u : Value) : OwnE (w.setCell p u) base v l :=
  ⟨own_set h.own (fun k hk e => by have := own_ge h.own k hk; omega) u, fun c hc => sl_set (h.rows c hc) (fun _ k hk e => by have := (h.far c hc k hk).1; omega) u,
   fun c hc k hk => by have := h.far c hc k hk; rw [World.size_setCell]; exact this⟩
theorem one_ent (W : World) (c : Ent) : Sl (W.alloc (.cells #[.string (str c.e.key), .int .i64 c.e.t, .int .i64 c.e.s, c.v, .bool c.e.met] 28)) (.slice (some ⟨W.heap.size, 0, none⟩) 1 1) 1 c.cells := Sl.block (Blk.new W 28 #[.string (str c.e.key), .int .i64 c.e.t, .int .i64 c.e.s, c.v, .bool c.e.met]) 1 1 (Nat.le_refl _) (by decide)
theorem ent_one {w : World} {c : Ent} {n : Nat} {cs : List Value} (h : Sl w c.v n cs) : ∀ u ∈ c.cells, u.oneCell' = true := by
  obtain ⟨A, k, hv, -⟩ := h
  intro u hu
  simp [Ent.cells] at hu
  rcases hu with rfl | rfl | rfl | rfl | rfl
  · rfl
  · rfl
  · rfl
  · rw [hv]; rfl
  · rfl
theorem grown_setE {w w' : World} {P : Nat} (h : w.grownBy w' (some P)) (i : Nat) (u : Value) : w.grownBy (w'.setCell ⟨P, i, none⟩ u) (some P) :=
  ⟨h.os, h.tape, h.output, by rw [World.size_setCell]; exact h.size, fun k hk hn => (Below.heap_setCell w' ⟨P, i, none⟩ u k (fun e => hn (by rw [e]))).trans (h.block k hk hn)⟩
/-- The blocks of entries: their own, and their rows'. -/
def EBlk (v : Value) (l : List Ent) (k : Nat) : Prop := v.ownBlock = some k ∨ ∃ c ∈ l, c.v.ownBlock = some k
theorem OwnE.range {w : World} {base : Nat} {v : Value} {l : List Ent} (h : OwnE w base v l) {k : Nat} (hk : EBlk v l k) : base ≤ k ∧ k < w.heap.size := by
  rcases hk with hk | ⟨c, hc, hk⟩
  · exact h.own.lt k hk
  · exact ⟨(h.far c hc k hk).1, (h.far c hc k hk).2.1⟩
theorem OwnE.grown {w w' : World} {base : Nat} {v : Value} {l : List Ent} {row : Option Nat} (h : OwnE w base v l) (hg : w.grownBy w' row) (hr : ∀ k, EBlk v l k → row ≠ some k) : OwnE w' base v l := by
  refine ⟨h.own.kept hg ?_, fun c hc => sl_grown (h.rows c hc) hg (fun k hk => hr k (.inr ⟨c, hc, hk⟩)), fun c hc k hk => ⟨(h.far c hc k hk).1, Nat.lt_of_lt_of_le (h.far c hc k hk).2.1 hg.size, (h.far c hc k hk).2.2⟩⟩
  cases hv : v.ownBlock with
  | none => exact .inl rfl
  | some k => exact .inr fun e => hr k (.inl hv) e.symm
theorem own_low {w : World} {base base' : Nat} {e : TypeId} {size : Nat} {v : Value} {n : Nat} {xs : List Value} (h : w.ownsRow base e size v n xs) (hb : base' ≤ base) : w.ownsRow base' e size v n xs := by
  obtain ⟨h1, h2⟩ := h
  refine ⟨h1, ?_⟩
  rcases h2 with h2 | ⟨g, cap, cur, rfl, h3, h4⟩
  · exact .inl h2
  · exact .inr ⟨g, cap, cur, rfl, Nat.le_trans hb h3, h4⟩
theorem OwnE.low {w : World} {base base' : Nat} {v : Value} {l : List Ent} (h : OwnE w base v l) (hb : base' ≤ base) : OwnE w base' v l :=
  ⟨own_low h.own hb, h.rows, fun c hc k hk => ⟨Nat.le_trans hb (h.far c hc k hk).1, (h.far c hc k hk).2⟩⟩
theorem eblk_lay {v v' : Value} {l : List Ent} {a n : Nat} {c : Ent} (h1 : ∀ k, v'.ownBlock = some k → v.ownBlock = some k ∨ n ≤ k) (h2 : ∀ k, c.v.ownBlock = some k → n ≤ k) : ∀ k, EBlk v' (l.take a ++ c :: l.drop a) k → EBlk v l k ∨ n ≤ k := by
  rintro k (hk | ⟨d, hd, hk⟩)
  · exact (h1 k hk).imp .inl id
  · rcases List.mem_append.1 hd with hd | hd
    · exact .inl (.inr ⟨d, List.mem_of_mem_take hd, hk⟩)
    · rcases List.mem_cons.1 hd with rfl | hd
      · exact .inr (h2 k hk)
      · exact .inl (.inr ⟨d, List.mem_of_mem_drop hd, hk⟩)
theorem eblk_snoc {v v' : Value} {l : List Ent} {n : Nat} {c : Ent} (h1 : ∀ k, v'.ownBlock = some k → v.ownBlock = some k ∨ n ≤ k) (h2 : ∀ k, c.v.ownBlock = some k → n ≤ k) : ∀ k, EBlk v' (l ++ [c]) k → EBlk v l k ∨ n ≤ k := by
  rintro k (hk | ⟨d, hd, hk⟩)
  · exact (h1 k hk).imp .inl id
  · rcases List.mem_append.1 hd with hd | hd
    · exact .inl (.inr ⟨d, hd, hk⟩)
    · simp only [List.mem_singleton] at hd
      subst hd
      exact .inr (h2 k hk)
theorem ens_snoc (l : List Ent) (x : Ent) : ens (l ++ [x]) = ens l ++ [x.e] := by unfold ens; rw [List.map_append]; rfl

end Go.Proofs.YteabfalklgffmaaDoor
