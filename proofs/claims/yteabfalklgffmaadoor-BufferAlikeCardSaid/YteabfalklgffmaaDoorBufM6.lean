/-
  What buffers need of rows: copies, and rows of one's own. An entry of new memory; the parts of a buffer. Entries in a row of one's own.
-/
import Derived.Test.YteabfalklgffmaaDoorValue9
import Derived.Lib.Walk
import Derived.Lib.SliceRun
import Derived.Test.YteabfalklgffmaaDoorBufM5
set_option linter.unusedSimpArgs false
set_option linter.unusedVariables false
namespace Go.Proofs.YteabfalklgffmaaDoor
open Go.RowKit
theorem valJ : EInfo Tryd.prog 82 3 32 := by
  have h : (Tryd.prog.info? 82).map (fun i => (i.zero, i.size, i.bytes)) = some (some (.agg #[.int .i64 0, .int .i64 0, .string ⟨#[]⟩]), 3, 32) := by kernel_rfl
  obtain ⟨i, hi, h1, h2, h3⟩ := info_parts h
  exact ⟨i, _, hi, h1, h2, h3, rfl, by omega⟩
theorem val_cell (x : Val) : ∀ u ∈ x.cells, u.oneCell' = true := by
  intro u hu
  simp [Val.cells] at hu
  rcases hu with rfl | rfl | rfl <;> rfl
theorem rowCells_len (l : List Val) : (rowCells l).length = l.length * 3 := flat_len Val.cells_len l
theorem rowCells_one (l : List Val) : ∀ u ∈ rowCells l, u.oneCell' = true := by
  intro u hu
  obtain ⟨x, -, hx⟩ := List.mem_flatMap.1 hu
  exact val_cell x u hx
theorem own_emptyT (W : World) (base : Nat) (t : TypeId) (size : Nat) (h : base ≤ W.heap.size) : (W.alloc (.cells #[] t)).ownsRow base t size (.slice (some ⟨W.heap.size, 0, none⟩) 0 0) 0 [] :=
  ⟨by simp, .inr ⟨_, 0, #[], rfl, h, heap_alloc_new W _, Nat.le_refl _, by decide, by simp, by simp⟩⟩

theorem sl_grown {w w' : World} {v : Value} {n : Nat} {cs : List Value} {row : Option Nat} (h : Sl w v n cs) (hg : w.grownBy w' row) (hr : ∀ k, v.ownBlock = some k → row ≠ some k) : Sl w' v n cs := by
  obtain ⟨A, c, rfl, h1, h2, h0, h3⟩ := h
  refine ⟨A, c, rfl, h1, h2, h0, fun hne => ?_⟩
  obtain ⟨b, off, rfl, hc⟩ := h3 hne
  refine ⟨b, off, rfl, fun j u hj => ?_⟩
  have hcc := hc j u hj
  have hlt := World.block_lt_of_cell? w _ hcc
  rw [World.cell?_of_block (hg.block b hlt (fun e => hr b rfl e.symm))]
  exact hcc
/-- One entry more, appended. -/
theorem own_prefix {w : World} {base : Nat} {e : TypeId} {size g n cap k : Nat} {xs : List Value} (h : w.ownsRow base e size (.slice (some ⟨g, 0, none⟩) n cap) n xs) (hk : k ≤ n) : w.ownsRow base e size (.slice (some ⟨g, 0, none⟩) k cap) k (xs.take (k * size)) := by
  have hx := h.1
  have hks : k * size ≤ n * size := Nat.mul_le_mul_right _ hk
  refine ⟨by rw [List.length_take, hx]; omega, ?_⟩
  rcases h.2 with ⟨h', -⟩ | ⟨g', cap', cur, h', hb, hg, hn, hc, hsz, ht⟩
  · cases h'
  · injection h' with e1 e2 e3
    injection e1 with e1
    injection e1 with e1
    subst e1 e3
    refine .inr ⟨g, cap, cur, rfl, hb, hg, by omega, hc, hsz, ?_⟩
    rw [← ht, List.take_take, Nat.min_eq_left hks]

/-! ### copy, of elements of any size -/
theorem run_copy_wide {P : Program} (w : World) (dT sT ty elem : TypeId) (g o dLen dCap : Nat) (a : Addr) (sLen sCap size : Nat) (cur : Array Value) (t : TypeId) (cs : List Value)
    (hu : P.underlying dT = some (.slice elem)) (hs : (P.info? elem).map (·.size) = some size)
    (hg : w.heap[g]? = some (.cells cur t (0, 0))) (hn : cs.length = Nat.min sLen dLen * size)
    (hsrc : ∀ j v, cs[j]? = some v → w.cell? (a.add j) = some v) (hfit : o + cs.length ≤ cur.size) (h1 : ∀ v ∈ cs, v.oneCell' = true) :
    (Builtin.copy_ #[dT, sT] ty #[.slice (some ⟨g, o, none⟩) dLen dCap, .slice (some a) sLen sCap]).run P w =
      .ok (goInt (Nat.min sLen dLen)) (w.setRow g (cur.toList.take o ++ cs ++ cur.toList.drop (o + cs.length)).toArray) := by
  have hl := run_loadCells_list (P := P) w a cs hsrc
  have hst := run_storeCells_at P g o t cs 0 cur w hg (by simpa using hfit) h1
  cases hq : P.info? elem with
  | none => simp [hq] at hs
  | some i =>
    have hi : i.size = size := by simpa [hq] using hs
    simp [Builtin.copy_, run_underlying hu, Builtin.lenOf, Builtin.firstCells, sizeOf, typeInfo, hq, hi, ← hn, hl, hst]

/-! ### a view of one's own, turned -/
theorem flat_take {α : Type} {f : α → List Value} {size : Nat} (hf : ∀ a, (f a).length = size) (l : List α) (k : Nat) : (l.flatMap f).take (k * size) = (l.take k).flatMap f := by
  induction l generalizing k with
  | nil => simp
  | cons a l ih =>
    cases k with
    | zero => simp
    | succ k => rw [List.flatMap_cons, List.take_succ_cons, List.flatMap_cons, List.take_append, hf a, List.take_of_length_le (by rw [hf a, Nat.add_mul]; omega), ← ih k]; congr 2; rw [Nat.add_mul]; omega
theorem flat_drop {α : Type} {f : α → List Value} {size : Nat} (hf : ∀ a, (f a).length = size) (l : List α) (k : Nat) : (l.flatMap f).drop (k * size) = (l.drop k).flatMap f := by
  induction l generalizing k with
  | nil => simp
  | cons a l ih =>
    cases k with
    | zero => simp
    | succ k => rw [List.flatMap_cons, List.drop_succ_cons, List.drop_append, hf a, List.drop_of_length_le (by rw [hf a, Nat.add_mul]; omega), List.nil_append, ← ih k]; congr 1; rw [Nat.add_mul]; omega
theorem grown_of_below {w w' : World} (h : Below w.heap.size w w') (row : Option Nat) : w.grownBy w' row := ⟨h.os, h.tape, h.output, h.size, fun k hk _ => h.block k hk⟩
theorem grown_trans {a b c : World} {row : Option Nat} (h : a.grownBy b row) (k : b.grownBy c row) : a.grownBy c row := ⟨k.os.trans h.os, k.tape.trans h.tape, k.output.trans h.output, Nat.le_trans h.size k.size, fun j hj hn => (k.block j (Nat.lt_of_lt_of_le hj h.size) hn).trans (h.block j hj hn)⟩
theorem grown_new {a b c : World} {row row' : Option Nat} (h : a.grownBy b row) (k : b.grownBy c row') (hr : ∀ j, row' = some j → row = some j ∨ a.heap.size ≤ j) : a.grownBy c row := ⟨k.os.trans h.os, k.tape.trans h.tape, k.output.trans h.output, Nat.le_trans h.size k.size, fun j hj hn => (k.block j (Nat.lt_of_lt_of_le hj h.size) (fun e => by
  rcases hr j e.symm with h1 | h1
  · exact hn h1.symm
  · omega)).trans (h.block j hj hn)⟩
theorem drew_grown {w w' : World} {row : Option Nat} (h : w.drew.grownBy w' row) : w.grownBy w' row := ⟨h.os, h.tape, h.output, h.size, h.block⟩
theorem grown_drew {w w' : World} {row : Option Nat} (h : w.grownBy w' row) : w.grownBy w'.drew row := ⟨h.os, h.tape, h.output, h.size, h.block⟩
theorem run_copy_zero {P : Program} (w : World) (dT sT ty elem : TypeId) (d s : Option Addr) (dLen dCap sLen sCap : Nat)
    (hu : P.underlying dT = some (.slice elem)) (hs : ((P.info? elem).map (·.size)).isSome = true) (hn : Nat.min sLen dLen = 0) :
    (Builtin.copy_ #[dT, sT] ty #[.slice d dLen dCap, .slice s sLen sCap]).run P w = .ok (goInt 0) w := by
  cases hq : P.info? elem with
  | none => simp [hq] at hs
  | some i => cases d <;> cases s <;> simp [Builtin.copy_, run_underlying hu, Builtin.lenOf, Builtin.firstCells, sizeOf, typeInfo, hq, hn, storeCells, loadCells, loadCellsFrom]

theorem step_copy_run {P : Program} {ops : Array Oper} {o : Oper} {a : Act} {w w' : World} {K : Act → World → Prop} {Q : Exit → Act → World → Prop} {E : Prop} {r : Value} (hgd : o.guard = none) (d s : Operand) (dT sT : TypeId)
    (ho : o.op = .call { callee := .builtin .copy, args := #[d, s], argTypes := #[dT, sT] }) (dv sv : Value) (hd : a.eval d = dv) (hs : a.eval s = sv) (hrun : (Builtin.copy_ #[dT, sT] o.type #[dv, sv]).run P w = .ok r w')
    (h : K (a.put o.dst r) w') : if Region.wanted o (yielded ops a.tmps) = true then Oper.wp P o a w K Q else E := by
  rw [if_pos (by simp [Region.wanted, hgd])]
  unfold Oper.wp
  simp [execOp, ho, resolve, invoke, builtin, hd, hs, hrun, Result.andThen]
  exact h

theorem sl_grown2 {w w' : World} {v : Value} {n : Nat} {cs : List Value} {row : Option Nat} (h : Sl w v n cs) (hg : w.grownBy w' row) (hr : cs ≠ [] → ∀ k, v.ownBlock = some k → row ≠ some k) : Sl w' v n cs := by
  by_cases hne : cs = []
  · obtain ⟨A, c, rfl, h1, h2, h0, h3⟩ := h
    exact ⟨A, c, rfl, h1, h2, h0, fun h => absurd hne h⟩
  · exact sl_grown h hg (hr hne)

theorem row_block {w : World} {v : Value} {r : List Val} (h : Sl w v r.length (rowCells r)) (hne : rowCells r ≠ []) {k : Nat} (hk : v.ownBlock = some k) : k < w.heap.size := by
  obtain ⟨A, c, rfl, -, -, -, h3⟩ := h
  obtain ⟨b, off, rfl, hc⟩ := h3 hne
  have e : b = k := by simpa [Value.ownBlock] using hk
  subst e
  obtain ⟨x, l, hx⟩ := List.exists_cons_of_ne_nil hne
  exact World.block_lt_of_cell? w _ (hc 0 x (by rw [hx]; rfl))

theorem one_at {w : World} {cs : List Value} {v : Value} {m : Nat} (h : Sl w v m cs) {A : Option Addr} {n c : Nat} (hv : v = .slice A n c) {k : Nat} {u : Value} (hk : cs[k]? = some u) :
    ∃ b off, A = some ⟨b, off, none⟩ ∧ b < w.heap.size ∧ ∀ w', Below w.heap.size w w' → w'.cell? ⟨b, off + k, none⟩ = some u := by
  obtain ⟨A', c', hv', h1, h2, -, h3⟩ := h
  rw [hv] at hv'
  injection hv' with e1 e2 e3
  subst e1
  obtain ⟨b, off, hA, hc⟩ := h3 (by intro h0; rw [h0] at hk; simp at hk)
  have c1 := hc _ _ hk
  exact ⟨b, off, hA, World.block_lt_of_cell? w _ c1, fun w' hb => cell_below hb c1⟩

theorem one_cellR (W : World) (t : TypeId) (u : Value) : Sl (W.alloc (.cells #[u] t)) (.slice (some ⟨W.heap.size, 0, none⟩) 1 1) 1 [u] := Sl.block (Blk.new W t #[u]) 1 1 (Nat.le_refl _) (by decide)

theorem sl_set {w : World} {v : Value} {n : Nat} {cs : List Value} (h : Sl w v n cs) {p : Addr} (hp : cs ≠ [] → ∀ k, v.ownBlock = some k → k ≠ p.block) (u : Value) : Sl (w.setCell p u) v n cs := by
  obtain ⟨A, c, rfl, h1, h2, h0, h3⟩ := h
  refine ⟨A, c, rfl, h1, h2, h0, fun hne => ?_⟩
  obtain ⟨b, off, rfl, hc⟩ := h3 hne
  refine ⟨b, off, rfl, fun j x hj => ?_⟩
  have hcc := hc j x hj
  rw [World.cell?_of_block (Below.heap_setCell w p u b (hp hne b rfl))]
  exact hcc
theorem nil_yes (W : World) (n c : Nat) : (binOp .eql 26 (.slice none n c) (.slice none 0 0)).run Tryd.prog W = .ok (.bool true) W := by kernel_rfl
theorem nil_no (W : World) (p : Addr) (n c : Nat) : (binOp .eql 26 (.slice (some p) n c) (.slice none 0 0)).run Tryd.prog W = .ok (.bool false) W := by kernel_rfl
set_option maxHeartbeats 1000000 in
set_option maxRecDepth 10000 in
theorem clone_any (v : Value) (l : List Val) (w : World) (h : Sl w v l.length (rowCells l)) (h8 : l.length ≤ 8) :
    Calls Tryd.prog 48 #[v] w fun e w' => ∃ v', e = .returned v' ∧ Sl w' v' l.length (rowCells l) ∧ (∀ k, v'.ownBlock = some k → w.heap.size ≤ k ∧ k < w'.heap.size) ∧ Below w.heap.size w w' := by
  have HH := Lib.hid h
  obtain ⟨A, c, rfl, h1, h2, -, h3⟩ := h
  clear h2
  have HO := Lib.hid (own_emptyT w w.heap.size 82 3 (Nat.le_refl _))
  have hB := below_alloc w (.cells #[] 82)
  have HS := Lib.hid (HH.out.below hB)
  cases A with
  | none =>
    have hl : l = [] := by
      cases l with
      | nil => rfl
      | cons x t => obtain ⟨b, off, hA, -⟩ := h3 (by simp [rowCells, Val.cells]); cases hA
    subst hl
    clear h3
    have hnil := fun W => nil_yes W 0 c
    go_enter Tryd.func48, Tryd.ntmps48
    go_wp2
    go_ret
    exact ⟨_, rfl, Sl.nil_ _, nofun, Below.refl _ _⟩
  | some p =>
    clear h3
    have hnil := fun W => nil_no W p l.length c
    go_enter Tryd.func48, Tryd.ntmps48
    go_wp2_with (at_builtin; refine wpList_app rfl (.tmp 5) (.tmp 6) 26 rfl w.heap.size 82 3 32 Tryd.underlying26 valJ _ 0 _ rfl HO.out _ l.length (rowCells l) rfl HS.out (rowCells_len l) (rowCells_one l) ?_ ?_ ?_ ?_)
    · unfold maxLen; omega
    · omega
    · exact hB.size
    · intro v2 w3 hown3 hg3 hat3
      have hb3 := below_grown hB hg3 (own_ge HO.out)
      have S3 : Hid (Sl w3 v2 l.length (rowCells l)) := Lib.hid (by have := Sl.of_own hown3; simpa using this)
      have G3 := Lib.hid (fun k hk => And.intro (own_ge hown3 k hk) (own_lt hown3 k hk))
      clear hown3 hg3 hat3
      go_wp2
      go_ret
      exact ⟨_, rfl, S3.out, G3.out, hb3⟩


set_option maxHeartbeats 1000000 in
set_option maxRecDepth 10000 in
theorem copy_wide (v : Value) (l : List Val) (w : World) (h : Sl w v l.length (rowCells l)) (h8 : l.length ≤ 4398046511104) :
    Calls Tryd.prog 52 #[v] w fun e w' => ∃ v', e = .returned v' ∧ Sl w' v' l.length (rowCells l) ∧ (∀ k, v'.ownBlock = some k → w.heap.size ≤ k ∧ k < w'.heap.size) ∧ Below w.heap.size w w' := by
  have HH := Lib.hid h
  obtain ⟨A, c, rfl, h1, h2, -⟩ := h
  clear h2
  have HO := Lib.hid (own_emptyT w w.heap.size 82 3 (Nat.le_refl _))
  have hB := below_alloc w (.cells #[] 82)
  have HS := Lib.hid (HH.out.below hB)
  go_enter Tryd.func52, Tryd.ntmps52
  go_wp2_with (at_builtin; refine wpList_app rfl (.tmp 3) (.tmp 4) 26 rfl w.heap.size 82 3 32 Tryd.underlying26 valJ _ 0 _ rfl HO.out _ l.length (rowCells l) rfl HS.out (rowCells_len l) (rowCells_one l) ?_ ?_ ?_ ?_)
  · unfold maxLen; omega
  · omega
  · exact hB.size
  · intro v2 w3 hown3 hg3 hat3
    have hb3 := below_grown hB hg3 (own_ge HO.out)
    have S3 : Hid (Sl w3 v2 l.length (rowCells l)) := Lib.hid (by have := Sl.of_own hown3; simpa using this)
    have G3 := Lib.hid (fun k hk => And.intro (own_ge hown3 k hk) (own_lt hown3 k hk))
    clear hown3 hg3 hat3
    go_wp2
    go_ret
    exact ⟨_, rfl, S3.out, G3.out, hb3⟩


end Go.Proofs.YteabfalklgffmaaDoor
namespace Go.Proofs.YteabfalklgffmaaDoor
open Go.RowKit

set_option maxHeartbeats 2000000 in
set_option maxRecDepth 10000 in
theorem own_ent (x : Ent) (w : World) (hs : Sl w x.v x.e.r.length (rowCells x.e.r)) (h8 : x.e.r.length ≤ 8) :
    Calls Tryd.prog 25 #[x.agg] w fun e w' => ∃ v', e = .returned (Ent.agg ⟨v', x.e⟩) ∧ Sl w' v' x.e.r.length (rowCells x.e.r) ∧ (∀ k, v'.ownBlock = some k → w.heap.size ≤ k ∧ k < w'.heap.size) ∧ Below w.heap.size w w' := by
  have HS := Lib.hid hs
  obtain ⟨xv, ⟨xk, xt, xs, xr, xm⟩⟩ := x
  unfold Ent.agg
  simp only at hs HS h8 ⊢
  obtain ⟨A, cp, rfl, -⟩ := id hs
  clear hs
  generalize str xk = sk
  have B0 := new_first w 28 #[.string sk, .int .i64 xt, .int .i64 xs, .slice A xr.length cp, .bool xm] (.cells #[.string ⟨#[]⟩, .int .i64 0, .int .i64 0, .slice none 0 0, .bool false] 28)
  have B1 := new_second w 28 #[.string ⟨#[]⟩, .int .i64 0, .int .i64 0, .slice none 0 0, .bool false] (.cells #[.string sk, .int .i64 xt, .int .i64 xs, .slice A xr.length cp, .bool xm] 28)
  have HK0 := Lib.hid B0
  have HK1 := Lib.hid B1
  have hB := below_trans (below_alloc w (.cells #[.string sk, .int .i64 xt, .int .i64 xs, .slice A xr.length cp, .bool xm] 28)) (below_alloc _ (.cells #[.string ⟨#[]⟩, .int .i64 0, .int .i64 0, .slice none 0 0, .bool false] 28))
  clear B0 B1
  go_enter Tryd.func25, Tryd.ntmps25
  go_wp2_with fail
  refine (clone_any _ xr _ (HS.out.below hB) h8).mono ?_
  rintro e w1 ⟨v1, rfl, hs1, hf1, hb1⟩
  have hB1 := below_trans hB hb1
  have HS1 := Lib.hid hs1
  have HF1 := Lib.hid hf1
  have K0 := HK0.out.below hb1
  have K1 := HK1.out.below hb1
  have y0 := K0.cell 0 _ rfl
  have y1 := K0.cell 1 _ rfl
  have y2 := K0.cell 2 _ rfl
  have y3 := K0.cell 3 _ rfl
  have y4 := K0.cell 4 _ rfl
  have f3 := K0.free 3
  have z0 := K1.cell 0 _ rfl
  have z1 := K1.cell 1 _ rfl
  have z2 := K1.cell 2 _ rfl
  have z3 := K1.cell 3 _ rfl
  have z4 := K1.cell 4 _ rfl
  have g0 := K1.free 0
  have g1 := K1.free 1
  have g2 := K1.free 2
  have g3 := K1.free 3
  have g4 := K1.free 4
  obtain ⟨A1, c1, rfl, -⟩ := id hs1
  clear hs1 hf1
  go_wp2
  have hne : ∀ k, (Value.slice A1 xr.length c1).ownBlock = some k → k ≠ w.heap.size ∧ k ≠ w.heap.size + 1 := fun k hk => by
    have := (HF1.out k hk).1
    simp at this
    omega
  have Z := (((((HK1.out.below hb1).far (p := ⟨w.heap.size, 3, none⟩) (by show w.heap.size + 1 ≠ w.heap.size; omega) (.slice A1 xr.length c1)).set_ 0 (.string sk)).set_ 1 (.int .i64 xt)).set_ 2 (.int .i64 xs)).set_ 3 (.slice A1 xr.length c1) |>.set_ 4 (.bool xm)
  have x0 := Z.cell 0 (.string sk) rfl
  have x1 := Z.cell 1 (.int .i64 xt) rfl
  have x2 := Z.cell 2 (.int .i64 xs) rfl
  have x3 := Z.cell 3 (.slice A1 xr.length c1) rfl
  have x4 := Z.cell 4 (.bool xm) rfl
  have S1 := sl_set HS1.out (p := ⟨w.heap.size, 3, none⟩) (fun _ k hk => (hne k hk).1) (.slice A1 xr.length c1)
  have S2 := sl_set S1 (p := ⟨w.heap.size + 1, 0, none⟩) (fun _ k hk => (hne k hk).2) (.string sk)
  have S3 := sl_set S2 (p := ⟨w.heap.size + 1, 1, none⟩) (fun _ k hk => (hne k hk).2) (.int .i64 xt)
  have S4 := sl_set S3 (p := ⟨w.heap.size + 1, 2, none⟩) (fun _ k hk => (hne k hk).2) (.int .i64 xs)
  have S5 := sl_set S4 (p := ⟨w.heap.size + 1, 3, none⟩) (fun _ k hk => (hne k hk).2) (.slice A1 xr.length c1)
  have S6 := sl_set S5 (p := ⟨w.heap.size + 1, 4, none⟩) (fun _ k hk => (hne k hk).2) (.bool xm)
  have hBB := (((((hB1.setCell (p := ⟨w.heap.size, 3, none⟩) (Nat.le_refl _) (.slice A1 xr.length c1)).setCell (p := ⟨w.heap.size + 1, 0, none⟩) (by simp) (.string sk)).setCell (p := ⟨w.heap.size + 1, 1, none⟩) (by simp) (.int .i64 xt)).setCell (p := ⟨w.heap.size + 1, 2, none⟩) (by simp) (.int .i64 xs)).setCell (p := ⟨w.heap.size + 1, 3, none⟩) (by simp) (.slice A1 xr.length c1)).setCell (p := ⟨w.heap.size + 1, 4, none⟩) (by simp) (.bool xm)
  refine bodyPost_ret (v := .agg #[.string sk, .int .i64 xt, .int .i64 xs, .slice A1 xr.length c1, .bool xm]) (by simp [results, Tryd.results25, go_sem, x0, x1, x2, x3, x4]) rfl ?_
  exact ⟨_, rfl, S6, fun k hk => ⟨by have := (HF1.out k hk).1; simp at this; omega, by have := (HF1.out k hk).2; simpa [World.size_setCell] using this⟩, hBB⟩
end Go.Proofs.YteabfalklgffmaaDoor
namespace Go.Proofs.YteabfalklgffmaaDoor
open Go.RowKit

theorem entI : EInfo Tryd.prog 28 5 64 := by
  have h : (Tryd.prog.info? 28).map (fun i => (i.zero, i.size, i.bytes)) = some (some (.agg #[.string ⟨#[]⟩, .int .i64 0, .int .i64 0, .slice none 0 0, .bool false]), 5, 64) := by kernel_rfl
  obtain ⟨i, hi, h1, h2, h3⟩ := info_parts h
  exact ⟨i, _, hi, h1, h2, h3, rfl, by omega⟩
/-- Changes in a row of one's own, their rows too. -/
structure OwnE (w : World) (base : Nat) (v : Value) (l : List Ent) : Prop where
  own : w.ownsRow base 28 5 v l.length (entCells l)
  rows : ∀ c ∈ l, Sl w c.v c.e.r.length (rowCells c.e.r)
  far : ∀ c ∈ l, ∀ k, c.v.ownBlock = some k → base ≤ k ∧ k < w.heap.size ∧ v.ownBlock ≠ some k
theorem OwnE.ents {w : World} {base : Nat} {v : Value} {l : List Ent} (h : OwnE w base v l) : Ents w v l := ⟨Sl.of_own h.own, h.rows⟩
theorem OwnE.below {w w' : World} {base : Nat} {v : Value} {l : List Ent} (h : OwnE w base v l) (hb : Below w.heap.size w w') : OwnE w' base v l :=
  ⟨own_below h.own hb, fun c hc => (h.rows c hc).below hb, fun c hc k hk => ⟨(h.far c hc k hk).1, Nat.lt_of_lt_of_le (h.far c hc k hk).2.1 hb.size, (h.far c hc k hk).2.2⟩⟩
theorem OwnE.alloc {w : World} {base : Nat} {v : Value} {l : List Ent} (h : OwnE w base v l) (o : Obj) : OwnE (w.alloc o) base v l := h.below (below_alloc w o)
theorem OwnE.drew {w : World} {base : Nat} {v : Value} {l : List Ent} (h : OwnE w base v l) : OwnE w.drew base v l := ⟨h.own, h.rows, h.far⟩
theorem OwnE.nil (w : World) (base : Nat) : OwnE w base (.slice none 0 0) [] := ⟨⟨rfl, .inl ⟨rfl, rfl⟩⟩, nofun, nofun⟩
theorem entCells_app (a b : List Ent) : entCells (a ++ b) = entCells a ++ entCells b := List.flatMap_append
theorem OwnE.snoc {w w' : World} {base : Nat} {v v' : Value} {l : List Ent} {c : Ent} (h : OwnE w base v l) (hown : w'.ownsRow base 28 5 v' (l.length + 1) (entCells l ++ c.cells)) (hg : w.grownBy w' v.ownBlock) (hat : v'.ownBlock = v.ownBlock ∨ v'.ownBlock = some w.heap.size)
    (hc : Sl w c.v c.e.r.length (rowCells c.e.r)) (hf : ∀ k, c.v.ownBlock = some k → base ≤ k ∧ k < w.heap.size ∧ v.ownBlock ≠ some k) : OwnE w' base v' (l ++ [c]) := by
  have hfar : ∀ d ∈ l ++ [c], Sl w d.v d.e.r.length (rowCells d.e.r) ∧ ∀ k, d.v.ownBlock = some k → base ≤ k ∧ k < w.heap.size ∧ v.ownBlock ≠ some k := by
    intro d hd
    rcases List.mem_append.1 hd with hd | hd
    · exact ⟨h.rows d hd, h.far d hd⟩
    · simp only [List.mem_singleton] at hd; subst hd; exact ⟨hc, hf⟩
  refine ⟨?_, fun d hd => sl_grown (hfar d hd).1 hg (fun k hk => ((hfar d hd).2 k hk).2.2), fun d hd k hk => ?_⟩
  · rw [entCells_app, List.length_append]
    simpa [entCells] using hown
  · obtain ⟨h0, h1, h2⟩ := (hfar d hd).2 k hk
    refine ⟨h0, Nat.lt_of_lt_of_le h1 hg.size, fun e => ?_⟩
    rcases hat with e' | e'
    · exact h2 (e' ▸ e)
    · rw [e'] at e
      injection e with e
      omega
theorem OwnE.set {w : World} {base : Nat} {v : Value} {l : List Ent} (h : OwnE w base v l) {p : Addr} (hp : p.block < base) (u : Value) : OwnE (w.setCell p u) base v l :=
  ⟨own_set h.own (fun k hk e => by have := own_ge h.own k hk; omega) u, fun c hc => sl_set (h.rows c hc) (fun _ k hk e => by have := (h.far c hc k hk).1; omega) u,
   fun c hc k hk => by have := h.far c hc k hk; rw [World.size_setCell]; exact this⟩
theorem one_ent (W : World) (c : Ent) : Sl (W.alloc (.cells #[.string (str c.e.key), .int .i64 c.e.t, .int .i64 c.e.s, c.v, .bool c.e.met] 28)) (.slice (some ⟨W.heap.size, 0, none⟩) 1 1) 1 c.cells := Sl.block (Blk.new W 28 #[.string (str c.e.key), .int .i64 c.e.t, .int .i64 c.e.s, c.v, .bool c.e.met]) 1 1 (Nat.le_refl _) (by decide)
theorem ent_one {w : World} {c : Ent} {n : Nat} {cs : List Value} (h : Sl w c.v n cs) : ∀ u ∈ c.cells, u.oneCell' = true := by
  obtain ⟨A, k, hv, -⟩ := h
  intro u hu
  simp [Ent.cells] at hu
  rcases hu with rfl | rfl | rfl | rfl | rfl
  · rfl
  · rfl
  · rfl
  · rw [hv]; rfl
  · rfl
theorem grown_setE {w w' : World} {P : Nat} (h : w.grownBy w' (some P)) (i : Nat) (u : Value) : w.grownBy (w'.setCell ⟨P, i, none⟩ u) (some P) :=
  ⟨h.os, h.tape, h.output, by rw [World.size_setCell]; exact h.size, fun k hk hn => (Below.heap_setCell w' ⟨P, i, none⟩ u k (fun e => hn (by rw [e]))).trans (h.block k hk hn)⟩
/-- The blocks of entries: their own, and their rows'. -/
def EBlk (v : Value) (l : List Ent) (k : Nat) : Prop := v.ownBlock = some k ∨ ∃ c ∈ l, c.v.ownBlock = some k
theorem OwnE.range {w : World} {base : Nat} {v : Value} {l : List Ent} (h : OwnE w base v l) {k : Nat} (hk : EBlk v l k) : base ≤ k ∧ k < w.heap.size := by
  rcases hk with hk | ⟨c, hc, hk⟩
  · exact h.own.lt k hk
  · exact ⟨(h.far c hc k hk).1, (h.far c hc k hk).2.1⟩
theorem OwnE.grown {w w' : World} {base : Nat} {v : Value} {l : List Ent} {row : Option Nat} (h : OwnE w base v l) (hg : w.grownBy w' row) (hr : ∀ k, EBlk v l k → row ≠ some k) : OwnE w' base v l := by
  refine ⟨h.own.kept hg ?_, fun c hc => sl_grown (h.rows c hc) hg (fun k hk => hr k (.inr ⟨c, hc, hk⟩)), fun c hc k hk => ⟨(h.far c hc k hk).1, Nat.lt_of_lt_of_le (h.far c hc k hk).2.1 hg.size, (h.far c hc k hk).2.2⟩⟩
  cases hv : v.ownBlock with
  | none => exact .inl rfl
  | some k => exact .inr fun e => hr k (.inl hv) e.symm
theorem own_low {w : World} {base base' : Nat} {e : TypeId} {size : Nat} {v : Value} {n : Nat} {xs : List Value} (h : w.ownsRow base e size v n xs) (hb : base' ≤ base) : w.ownsRow base' e size v n xs := by
  obtain ⟨h1, h2⟩ := h
  refine ⟨h1, ?_⟩
  rcases h2 with h2 | ⟨g, cap, cur, rfl, h3, h4⟩
  · exact .inl h2
  · exact .inr ⟨g, cap, cur, rfl, Nat.le_trans hb h3, h4⟩
theorem OwnE.low {w : World} {base base' : Nat} {v : Value} {l : List Ent} (h : OwnE w base v l) (hb : base' ≤ base) : OwnE w base' v l :=
  ⟨own_low h.own hb, h.rows, fun c hc k hk => ⟨Nat.le_trans hb (h.far c hc k hk).1, (h.far c hc k hk).2⟩⟩
theorem eblk_lay {v v' : Value} {l : List Ent} {a n : Nat} {c : Ent} (h1 : ∀ k, v'.ownBlock = some k → v.ownBlock = some k ∨ n ≤ k) (h2 : ∀ k, c.v.ownBlock = some k → n ≤ k) : ∀ k, EBlk v' (l.take a ++ c :: l.drop a) k → EBlk v l k ∨ n ≤ k := by
  rintro k (hk | ⟨d, hd, hk⟩)
  · exact (h1 k hk).imp .inl id
  · rcases List.mem_append.1 hd with hd | hd
    · exact .inl (.inr ⟨d, List.mem_of_mem_take hd, hk⟩)
    · rcases List.mem_cons.1 hd with rfl | hd
      · exact .inr (h2 k hk)
      · exact .inl (.inr ⟨d, List.mem_of_mem_drop hd, hk⟩)
theorem eblk_snoc {v v' : Value} {l : List Ent} {n : Nat} {c : Ent} (h1 : ∀ k, v'.ownBlock = some k → v.ownBlock = some k ∨ n ≤ k) (h2 : ∀ k, c.v.ownBlock = some k → n ≤ k) : ∀ k, EBlk v' (l ++ [c]) k → EBlk v l k ∨ n ≤ k := by
  rintro k (hk | ⟨d, hd, hk⟩)
  · exact (h1 k hk).imp .inl id
  · rcases List.mem_append.1 hd with hd | hd
    · exact .inl (.inr ⟨d, hd, hk⟩)
    · simp only [List.mem_singleton] at hd
      subst hd
      exact .inr (h2 k hk)
theorem ens_snoc (l : List Ent) (x : Ent) : ens (l ++ [x]) = ens l ++ [x.e] := by unfold ens; rw [List.map_append]; rfl

end Go.Proofs.YteabfalklgffmaaDoor
