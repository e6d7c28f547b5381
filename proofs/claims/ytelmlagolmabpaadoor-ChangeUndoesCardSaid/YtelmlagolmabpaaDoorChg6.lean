/-
  The reference's Copy, and Own: a view of one's own.
-/
import Derived.Test.YtelmlagolmabpaaDoorChg2
import Derived.Test.YtelmlagolmabpaaDoorChgB0
set_option linter.unusedSimpArgs false
set_option linter.unusedVariables false
namespace Go.Proofs.YtelmlagolmabpaaDoor
open Go.RowKit

theorem cntI : EInfo Tryd.prog 99 2 32 := by
  have h : (Tryd.prog.info? 99).map (fun i => (i.zero, i.size, i.bytes)) = some (some (.agg #[.slice none 0 0, .int .i64 0]), 2, 32) := by kernel_rfl
  obtain ⟨i, hi, h1, h2, h3⟩ := info_parts h
  exact ⟨i, _, hi, h1, h2, h3, rfl, by omega⟩
theorem rowCells_len (l : List Val) : (rowCells l).length = l.length * 3 := flat_len Val.cells_len l
theorem cntCells_len (l : List Cnt) : (cntCells l).length = l.length * 2 := flat_len Cnt.cells_len l
theorem rowCells_one (l : List Val) : ∀ u ∈ rowCells l, u.oneCell' = true := by
  intro u hu
  obtain ⟨x, -, hx⟩ := List.mem_flatMap.1 hu
  exact val_cell x u hx
theorem own_emptyT (W : World) (base : Nat) (t : TypeId) (size : Nat) (h : base ≤ W.heap.size) : (W.alloc (.cells #[] t)).ownsRow base t size (.slice (some ⟨W.heap.size, 0, none⟩) 0 0) 0 [] :=
  ⟨by simp, .inr ⟨_, 0, #[], rfl, h, heap_alloc_new W _, Nat.le_refl _, by decide, by simp, by simp⟩⟩

set_option maxHeartbeats 1000000 in
set_option maxRecDepth 10000 in
theorem copy_any (v : Value) (l : List Val) (w : World) (h : Sl w v l.length (rowCells l)) (h8 : l.length ≤ 8) :
    Calls Tryd.prog 84 #[v] w fun e w' => ∃ v', e = .returned v' ∧ Sl w' v' l.length (rowCells l) ∧ (∀ k, v'.ownBlock = some k → w.heap.size ≤ k ∧ k < w'.heap.size) ∧ Below w.heap.size w w' := by
  have HH := Lib.hid h
  obtain ⟨A, c, rfl, h1, h2, -⟩ := h
  clear h2
  have HO := Lib.hid (own_emptyT w w.heap.size 79 3 (Nat.le_refl _))
  have hB := below_alloc w (.cells #[] 79)
  have HS := Lib.hid (HH.out.below hB)
  go_enter Tryd.func84, Tryd.ntmps84
  go_wp2_with (at_builtin; refine wpList_app rfl (.tmp 3) (.tmp 4) 34 rfl w.heap.size 79 3 32 Tryd.underlying34 valJ _ 0 _ rfl HO.out _ l.length (rowCells l) rfl HS.out (rowCells_len l) (rowCells_one l) ?_ ?_ ?_ ?_)
  · unfold maxLen; omega
  · omega
  · exact hB.size
  · intro v2 w3 hown3 hg3 hat3
    have hb3 := below_grown hB hg3 (own_ge HO.out)
    have S3 : Hid (Sl w3 v2 l.length (rowCells l)) := Lib.hid (by have := Sl.of_own hown3; simpa using this)
    have G3 := Lib.hid (fun k hk => And.intro (own_ge hown3 k hk) (own_lt hown3 k hk))
    clear hown3 hg3 hat3
    go_wp2
    go_ret
    exact ⟨_, rfl, S3.out, G3.out, hb3⟩

/-- A view of the call's own. -/
structure OwnV (w : World) (base : Nat) (v : Value) (l : List Cnt) : Prop where
  own : w.ownsRow base 99 2 v l.length (cntCells l)
  rows : ∀ c ∈ l, Sl w c.v c.r.length (rowCells c.r)
  far : ∀ c ∈ l, ∀ k, c.v.ownBlock = some k → k < w.heap.size ∧ v.ownBlock ≠ some k
theorem OwnV.view {w : World} {base : Nat} {v : Value} {l : List Cnt} (h : OwnV w base v l) : View w v l := ⟨Sl.of_own h.own, h.rows⟩
theorem OwnV.below {w w' : World} {base : Nat} {v : Value} {l : List Cnt} (h : OwnV w base v l) (hb : Below w.heap.size w w') : OwnV w' base v l :=
  ⟨own_below h.own hb, fun c hc => (h.rows c hc).below hb, fun c hc k hk => ⟨Nat.lt_of_lt_of_le (h.far c hc k hk).1 hb.size, (h.far c hc k hk).2⟩⟩
theorem OwnV.nil (w : World) (base : Nat) : OwnV w base (.slice none 0 0) [] := ⟨⟨rfl, .inl ⟨rfl, rfl⟩⟩, nofun, nofun⟩
theorem cntCells_app (a b : List Cnt) : cntCells (a ++ b) = cntCells a ++ cntCells b := List.flatMap_append
theorem sl_grown {w w' : World} {v : Value} {n : Nat} {cs : List Value} {row : Option Nat} (h : Sl w v n cs) (hg : w.grownBy w' row) (hr : ∀ k, v.ownBlock = some k → row ≠ some k) : Sl w' v n cs := by
  obtain ⟨A, c, rfl, h1, h2, h0, h3⟩ := h
  refine ⟨A, c, rfl, h1, h2, h0, fun hne => ?_⟩
  obtain ⟨b, off, rfl, hc⟩ := h3 hne
  refine ⟨b, off, rfl, fun j u hj => ?_⟩
  have hcc := hc j u hj
  have hlt := World.block_lt_of_cell? w _ hcc
  rw [World.cell?_of_block (hg.block b hlt (fun e => hr b rfl e.symm))]
  exact hcc
/-- One entry more, appended. -/
theorem OwnV.snoc {w w' : World} {base : Nat} {v v' : Value} {l : List Cnt} {c : Cnt} (h : OwnV w base v l) (hown : w'.ownsRow base 99 2 v' (l.length + 1) (cntCells l ++ c.cells)) (hg : w.grownBy w' v.ownBlock) (hat : v'.ownBlock = v.ownBlock ∨ v'.ownBlock = some w.heap.size)
    (hc : Sl w c.v c.r.length (rowCells c.r)) (hf : ∀ k, c.v.ownBlock = some k → k < w.heap.size ∧ v.ownBlock ≠ some k) : OwnV w' base v' (l ++ [c]) := by
  have hfar : ∀ d ∈ l ++ [c], Sl w d.v d.r.length (rowCells d.r) ∧ ∀ k, d.v.ownBlock = some k → k < w.heap.size ∧ v.ownBlock ≠ some k := by
    intro d hd
    rcases List.mem_append.1 hd with hd | hd
    · exact ⟨h.rows d hd, h.far d hd⟩
    · simp only [List.mem_singleton] at hd; subst hd; exact ⟨hc, hf⟩
  refine ⟨?_, fun d hd => sl_grown (hfar d hd).1 hg (fun k hk => ((hfar d hd).2 k hk).2), fun d hd k hk => ?_⟩
  · rw [cntCells_app, List.length_append]
    simpa [cntCells] using hown
  · obtain ⟨h1, h2⟩ := (hfar d hd).2 k hk
    refine ⟨Nat.lt_of_lt_of_le h1 hg.size, ?_⟩
    rcases hat with hat | hat
    · rw [hat]; exact h2
    · rw [hat]; intro e; injection e with e; omega

end Go.Proofs.YtelmlagolmabpaaDoor
