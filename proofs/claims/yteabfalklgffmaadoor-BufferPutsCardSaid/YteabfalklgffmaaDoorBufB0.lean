/-
  What buffers need of rows: copies, and rows of one's own.
-/
import Derived.Test.YteabfalklgffmaaDoorValue9
import Derived.Lib.Walk
import Derived.Lib.SliceRun
set_option linter.unusedSimpArgs false
set_option linter.unusedVariables false
namespace Go.Proofs.YteabfalklgffmaaDoor
open Go.RowKit
theorem valJ : EInfo Tryd.prog 82 3 32 := by
  have h : (Tryd.prog.info? 82).map (fun i => (i.zero, i.size, i.bytes)) = some (some (.agg #[.int .i64 0, .int .i64 0, .string ⟨#[]⟩]), 3, 32) := by kernel_rfl
  obtain ⟨i, hi, h1, h2, h3⟩ := info_parts h
  exact ⟨i, _, hi, h1, h2, h3, rfl, by omega⟩
theorem val_cell (x : Val) : ∀ u ∈ x.cells, u.oneCell' = true := by
  intro u hu
  simp [Val.cells] at hu
  rcases hu with rfl | rfl | rfl <;> rfl
theorem rowCells_len (l : List Val) : (rowCells l).length = l.length * 3 := flat_len Val.cells_len l
theorem rowCells_one (l : List Val) : ∀ u ∈ rowCells l, u.oneCell' = true := by
  intro u hu
  obtain ⟨x, -, hx⟩ := List.mem_flatMap.1 hu
  exact val_cell x u hx
theorem own_emptyT (W : World) (base : Nat) (t : TypeId) (size : Nat) (h : base ≤ W.heap.size) : (W.alloc (.cells #[] t)).ownsRow base t size (.slice (some ⟨W.heap.size, 0, none⟩) 0 0) 0 [] :=
  ⟨by simp, .inr ⟨_, 0, #[], rfl, h, heap_alloc_new W _, Nat.le_refl _, by decide, by simp, by simp⟩⟩

theorem sl_grown {w w' : World} {v : Value} {n : Nat} {cs : List Value} {row : Option Nat} (h : Sl w v n cs) (hg : w.grownBy w' row) (hr : ∀ k, v.ownBlock = some k → row ≠ some k) : Sl w' v n cs := by
  obtain ⟨A, c, rfl, h1, h2, h0, h3⟩ := h
  refine ⟨A, c, rfl, h1, h2, h0, fun hne => ?_⟩
  obtain ⟨b, off, rfl, hc⟩ := h3 hne
  refine ⟨b, off, rfl, fun j u hj => ?_⟩
  have hcc := hc j u hj
  have hlt := World.block_lt_of_cell? w _ hcc
  rw [World.cell?_of_block (hg.block b hlt (fun e => hr b rfl e.symm))]
  exact hcc
/-- One entry more, appended. -/
theorem own_prefix {w : World} {base : Nat} {e : TypeId} {size g n cap k : Nat} {xs : List Value} (h : w.ownsRow base e size (.slice (some ⟨g, 0, none⟩) n cap) n xs) (hk : k ≤ n) : w.ownsRow base e size (.slice (some ⟨g, 0, none⟩) k cap) k (xs.take (k * size)) := by
  have hx := h.1
  have hks : k * size ≤ n * size := Nat.mul_le_mul_right _ hk
  refine ⟨by rw [List.length_take, hx]; omega, ?_⟩
  rcases h.2 with ⟨h', -⟩ | ⟨g', cap', cur, h', hb, hg, hn, hc, hsz, ht⟩
  · cases h'
  · injection h' with e1 e2 e3
    injection e1 with e1
    injection e1 with e1
    subst e1 e3
    refine .inr ⟨g, cap, cur, rfl, hb, hg, by omega, hc, hsz, ?_⟩
    rw [← ht, List.take_take, Nat.min_eq_left hks]

/-! ### copy, of elements of any size -/
theorem run_copy_wide {P : Program} (w : World) (dT sT ty elem : TypeId) (g o dLen dCap : Nat) (a : Addr) (sLen sCap size : Nat) (cur : Array Value) (t : TypeId) (cs : List Value)
    (hu : P.underlying dT = some (.slice elem)) (hs : (P.info? elem).map (·.size) = some size)
    (hg : w.heap[g]? = some (.cells cur t (0, 0))) (hn : cs.length = Nat.min sLen dLen * size)
    (hsrc : ∀ j v, cs[j]? = some v → w.cell? (a.add j) = some v) (hfit : o + cs.length ≤ cur.size) (h1 : ∀ v ∈ cs, v.oneCell' = true) :
    (Builtin.copy_ #[dT, sT] ty #[.slice (some ⟨g, o, none⟩) dLen dCap, .slice (some a) sLen sCap]).run P w =
      .ok (goInt (Nat.min sLen dLen)) (w.setRow g (cur.toList.take o ++ cs ++ cur.toList.drop (o + cs.length)).toArray) := by
  have hl := run_loadCells_list (P := P) w a cs hsrc
  have hst := run_storeCells_at P g o t cs 0 cur w hg (by simpa using hfit) h1
  cases hq : P.info? elem with
  | none => simp [hq] at hs
  | some i =>
    have hi : i.size = size := by simpa [hq] using hs
    simp [Builtin.copy_, run_underlying hu, Builtin.lenOf, Builtin.firstCells, sizeOf, typeInfo, hq, hi, ← hn, hl, hst]

/-! ### a view of one's own, turned -/
theorem flat_take {α : Type} {f : α → List Value} {size : Nat} (hf : ∀ a, (f a).length = size) (l : List α) (k : Nat) : (l.flatMap f).take (k * size) = (l.take k).flatMap f := by
  induction l generalizing k with
  | nil => simp
  | cons a l ih =>
    cases k with
    | zero => simp
    | succ k => rw [List.flatMap_cons, List.take_succ_cons, List.flatMap_cons, List.take_append, hf a, List.take_of_length_le (by rw [hf a, Nat.add_mul]; omega), ← ih k]; congr 2; rw [Nat.add_mul]; omega
theorem flat_drop {α : Type} {f : α → List Value} {size : Nat} (hf : ∀ a, (f a).length = size) (l : List α) (k : Nat) : (l.flatMap f).drop (k * size) = (l.drop k).flatMap f := by
  induction l generalizing k with
  | nil => simp
  | cons a l ih =>
    cases k with
    | zero => simp
    | succ k => rw [List.flatMap_cons, List.drop_succ_cons, List.drop_append, hf a, List.drop_of_length_le (by rw [hf a, Nat.add_mul]; omega), List.nil_append, ← ih k]; congr 1; rw [Nat.add_mul]; omega
theorem grown_of_below {w w' : World} (h : Below w.heap.size w w') (row : Option Nat) : w.grownBy w' row := ⟨h.os, h.tape, h.output, h.size, fun k hk _ => h.block k hk⟩
theorem grown_trans {a b c : World} {row : Option Nat} (h : a.grownBy b row) (k : b.grownBy c row) : a.grownBy c row := ⟨k.os.trans h.os, k.tape.trans h.tape, k.output.trans h.output, Nat.le_trans h.size k.size, fun j hj hn => (k.block j (Nat.lt_of_lt_of_le hj h.size) hn).trans (h.block j hj hn)⟩
theorem grown_new {a b c : World} {row row' : Option Nat} (h : a.grownBy b row) (k : b.grownBy c row') (hr : ∀ j, row' = some j → row = some j ∨ a.heap.size ≤ j) : a.grownBy c row := ⟨k.os.trans h.os, k.tape.trans h.tape, k.output.trans h.output, Nat.le_trans h.size k.size, fun j hj hn => (k.block j (Nat.lt_of_lt_of_le hj h.size) (fun e => by
  rcases hr j e.symm with h1 | h1
  · exact hn h1.symm
  · omega)).trans (h.block j hj hn)⟩
theorem drew_grown {w w' : World} {row : Option Nat} (h : w.drew.grownBy w' row) : w.grownBy w' row := ⟨h.os, h.tape, h.output, h.size, h.block⟩
theorem grown_drew {w w' : World} {row : Option Nat} (h : w.grownBy w' row) : w.grownBy w'.drew row := ⟨h.os, h.tape, h.output, h.size, h.block⟩
theorem run_copy_zero {P : Program} (w : World) (dT sT ty elem : TypeId) (d s : Option Addr) (dLen dCap sLen sCap : Nat)
    (hu : P.underlying dT = some (.slice elem)) (hs : ((P.info? elem).map (·.size)).isSome = true) (hn : Nat.min sLen dLen = 0) :
    (Builtin.copy_ #[dT, sT] ty #[.slice d dLen dCap, .slice s sLen sCap]).run P w = .ok (goInt 0) w := by
  cases hq : P.info? elem with
  | none => simp [hq] at hs
  | some i => cases d <;> cases s <;> simp [Builtin.copy_, run_underlying hu, Builtin.lenOf, Builtin.firstCells, sizeOf, typeInfo, hq, hn, storeCells, loadCells, loadCellsFrom]

theorem step_copy_run {P : Program} {ops : Array Oper} {o : Oper} {a : Act} {w w' : World} {K : Act → World → Prop} {Q : Exit → Act → World → Prop} {E : Prop} {r : Value} (hgd : o.guard = none) (d s : Operand) (dT sT : TypeId)
    (ho : o.op = .call { callee := .builtin .copy, args := #[d, s], argTypes := #[dT, sT] }) (dv sv : Value) (hd : a.eval d = dv) (hs : a.eval s = sv) (hrun : (Builtin.copy_ #[dT, sT] o.type #[dv, sv]).run P w = .ok r w')
    (h : K (a.put o.dst r) w') : if Region.wanted o (yielded ops a.tmps) = true then Oper.wp P o a w K Q else E := by
  rw [if_pos (by simp [Region.wanted, hgd])]
  unfold Oper.wp
  simp [execOp, ho, resolve, invoke, builtin, hd, hs, hrun, Result.andThen]
  exact h

theorem sl_grown2 {w w' : World} {v : Value} {n : Nat} {cs : List Value} {row : Option Nat} (h : Sl w v n cs) (hg : w.grownBy w' row) (hr : cs ≠ [] → ∀ k, v.ownBlock = some k → row ≠ some k) : Sl w' v n cs := by
  by_cases hne : cs = []
  · obtain ⟨A, c, rfl, h1, h2, h0, h3⟩ := h
    exact ⟨A, c, rfl, h1, h2, h0, fun h => absurd hne h⟩
  · exact sl_grown h hg (hr hne)

theorem row_block {w : World} {v : Value} {r : List Val} (h : Sl w v r.length (rowCells r)) (hne : rowCells r ≠ []) {k : Nat} (hk : v.ownBlock = some k) : k < w.heap.size := by
  obtain ⟨A, c, rfl, -, -, -, h3⟩ := h
  obtain ⟨b, off, rfl, hc⟩ := h3 hne
  have e : b = k := by simpa [Value.ownBlock] using hk
  subst e
  obtain ⟨x, l, hx⟩ := List.exists_cons_of_ne_nil hne
  exact World.block_lt_of_cell? w _ (hc 0 x (by rw [hx]; rfl))

theorem one_at {w : World} {cs : List Value} {v : Value} {m : Nat} (h : Sl w v m cs) {A : Option Addr} {n c : Nat} (hv : v = .slice A n c) {k : Nat} {u : Value} (hk : cs[k]? = some u) :
    ∃ b off, A = some ⟨b, off, none⟩ ∧ b < w.heap.size ∧ ∀ w', Below w.heap.size w w' → w'.cell? ⟨b, off + k, none⟩ = some u := by
  obtain ⟨A', c', hv', h1, h2, -, h3⟩ := h
  rw [hv] at hv'
  injection hv' with e1 e2 e3
  subst e1
  obtain ⟨b, off, hA, hc⟩ := h3 (by intro h0; rw [h0] at hk; simp at hk)
  have c1 := hc _ _ hk
  exact ⟨b, off, hA, World.block_lt_of_cell? w _ c1, fun w' hb => cell_below hb c1⟩

theorem one_cellR (W : World) (t : TypeId) (u : Value) : Sl (W.alloc (.cells #[u] t)) (.slice (some ⟨W.heap.size, 0, none⟩) 1 1) 1 [u] := Sl.block (Blk.new W t #[u]) 1 1 (Nat.le_refl _) (by decide)

theorem sl_set {w : World} {v : Value} {n : Nat} {cs : List Value} (h : Sl w v n cs) {p : Addr} (hp : cs ≠ [] → ∀ k, v.ownBlock = some k → k ≠ p.block) (u : Value) : Sl (w.setCell p u) v n cs := by
  obtain ⟨A, c, rfl, h1, h2, h0, h3⟩ := h
  refine ⟨A, c, rfl, h1, h2, h0, fun hne => ?_⟩
  obtain ⟨b, off, rfl, hc⟩ := h3 hne
  refine ⟨b, off, rfl, fun j x hj => ?_⟩
  have hcc := hc j x hj
  rw [World.cell?_of_block (Below.heap_setCell w p u b (hp hne b rfl))]
  exact hcc
theorem nil_yes (W : World) (n c : Nat) : (binOp .eql 26 (.slice none n c) (.slice none 0 0)).run Tryd.prog W = .ok (.bool true) W := by kernel_rfl
theorem nil_no (W : World) (p : Addr) (n c : Nat) : (binOp .eql 26 (.slice (some p) n c) (.slice none 0 0)).run Tryd.prog W = .ok (.bool false) W := by kernel_rfl
set_option maxHeartbeats 1000000 in
set_option maxRecDepth 10000 in
theorem clone_any (v : Value) (l : List Val) (w : World) (h : Sl w v l.length (rowCells l)) (h8 : l.length ≤ 8) :
    Calls Tryd.prog 48 #[v] w fun e w' => ∃ v', e = .returned v' ∧ Sl w' v' l.length (rowCells l) ∧ (∀ k, v'.ownBlock = some k → w.heap.size ≤ k ∧ k < w'.heap.size) ∧ Below w.heap.size w w' := by
  have HH := Lib.hid h
  obtain ⟨A, c, rfl, h1, h2, -, h3⟩ := h
  clear h2
  have HO := Lib.hid (own_emptyT w w.heap.size 82 3 (Nat.le_refl _))
  have hB := below_alloc w (.cells #[] 82)
  have HS := Lib.hid (HH.out.below hB)
  cases A with
  | none =>
    have hl : l = [] := by
      cases l with
      | nil => rfl
      | cons x t => obtain ⟨b, off, hA, -⟩ := h3 (by simp [rowCells, Val.cells]); cases hA
    subst hl
    clear h3
    have hnil := fun W => nil_yes W 0 c
    go_enter Tryd.func48, Tryd.ntmps48
    go_wp2
    go_ret
    exact ⟨_, rfl, Sl.nil_ _, nofun, Below.refl _ _⟩
  | some p =>
    clear h3
    have hnil := fun W => nil_no W p l.length c
    go_enter Tryd.func48, Tryd.ntmps48
    go_wp2_with (at_builtin; refine wpList_app rfl (.tmp 5) (.tmp 6) 26 rfl w.heap.size 82 3 32 Tryd.underlying26 valJ _ 0 _ rfl HO.out _ l.length (rowCells l) rfl HS.out (rowCells_len l) (rowCells_one l) ?_ ?_ ?_ ?_)
    · unfold maxLen; omega
    · omega
    · exact hB.size
    · intro v2 w3 hown3 hg3 hat3
      have hb3 := below_grown hB hg3 (own_ge HO.out)
      have S3 : Hid (Sl w3 v2 l.length (rowCells l)) := Lib.hid (by have := Sl.of_own hown3; simpa using this)
      have G3 := Lib.hid (fun k hk => And.intro (own_ge hown3 k hk) (own_lt hown3 k hk))
      clear hown3 hg3 hat3
      go_wp2
      go_ret
      exact ⟨_, rfl, S3.out, G3.out, hb3⟩


set_option maxHeartbeats 1000000 in
set_option maxRecDepth 10000 in
theorem copy_wide (v : Value) (l : List Val) (w : World) (h : Sl w v l.length (rowCells l)) (h8 : l.length ≤ 4398046511104) :
    Calls Tryd.prog 52 #[v] w fun e w' => ∃ v', e = .returned v' ∧ Sl w' v' l.length (rowCells l) ∧ (∀ k, v'.ownBlock = some k → w.heap.size ≤ k ∧ k < w'.heap.size) ∧ Below w.heap.size w w' := by
  have HH := Lib.hid h
  obtain ⟨A, c, rfl, h1, h2, -⟩ := h
  clear h2
  have HO := Lib.hid (own_emptyT w w.heap.size 82 3 (Nat.le_refl _))
  have hB := below_alloc w (.cells #[] 82)
  have HS := Lib.hid (HH.out.below hB)
  go_enter Tryd.func52, Tryd.ntmps52
  go_wp2_with (at_builtin; refine wpList_app rfl (.tmp 3) (.tmp 4) 26 rfl w.heap.size 82 3 32 Tryd.underlying26 valJ _ 0 _ rfl HO.out _ l.length (rowCells l) rfl HS.out (rowCells_len l) (rowCells_one l) ?_ ?_ ?_ ?_)
  · unfold maxLen; omega
  · omega
  · exact hB.size
  · intro v2 w3 hown3 hg3 hat3
    have hb3 := below_grown hB hg3 (own_ge HO.out)
    have S3 : Hid (Sl w3 v2 l.length (rowCells l)) := Lib.hid (by have := Sl.of_own hown3; simpa using this)
    have G3 := Lib.hid (fun k hk => And.intro (own_ge hown3 k hk) (own_lt hown3 k hk))
    clear hown3 hg3 hat3
    go_wp2
    go_ret
    exact ⟨_, rfl, S3.out, G3.out, hb3⟩


end Go.Proofs.YteabfalklgffmaaDoor
