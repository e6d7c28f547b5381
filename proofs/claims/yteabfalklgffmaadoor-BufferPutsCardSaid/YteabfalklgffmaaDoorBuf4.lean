/-
  An entry of new memory; the parts of a buffer.
-/
import Derived.Test.YteabfalklgffmaaDoorBuf3
import Derived.Test.YteabfalklgffmaaDoorBufB0
set_option linter.unusedSimpArgs false
set_option linter.unusedVariables false
namespace Go.Proofs.YteabfalklgffmaaDoor
open Go.RowKit

set_option maxHeartbeats 2000000 in
set_option maxRecDepth 10000 in
theorem own_ent (x : Ent) (w : World) (hs : Sl w x.v x.e.r.length (rowCells x.e.r)) (h8 : x.e.r.length ≤ 8) :
    Calls Tryd.prog 25 #[x.agg] w fun e w' => ∃ v', e = .returned (Ent.agg ⟨v', x.e⟩) ∧ Sl w' v' x.e.r.length (rowCells x.e.r) ∧ (∀ k, v'.ownBlock = some k → w.heap.size ≤ k ∧ k < w'.heap.size) ∧ Below w.heap.size w w' := by
  have HS := Lib.hid hs
  obtain ⟨xv, ⟨xk, xt, xs, xr, xm⟩⟩ := x
  unfold Ent.agg
  simp only at hs HS h8 ⊢
  obtain ⟨A, cp, rfl, -⟩ := id hs
  clear hs
  generalize str xk = sk
  have B0 := new_first w 28 #[.string sk, .int .i64 xt, .int .i64 xs, .slice A xr.length cp, .bool xm] (.cells #[.string ⟨#[]⟩, .int .i64 0, .int .i64 0, .slice none 0 0, .bool false] 28)
  have B1 := new_second w 28 #[.string ⟨#[]⟩, .int .i64 0, .int .i64 0, .slice none 0 0, .bool false] (.cells #[.string sk, .int .i64 xt, .int .i64 xs, .slice A xr.length cp, .bool xm] 28)
  have HK0 := Lib.hid B0
  have HK1 := Lib.hid B1
  have hB := below_trans (below_alloc w (.cells #[.string sk, .int .i64 xt, .int .i64 xs, .slice A xr.length cp, .bool xm] 28)) (below_alloc _ (.cells #[.string ⟨#[]⟩, .int .i64 0, .int .i64 0, .slice none 0 0, .bool false] 28))
  clear B0 B1
  go_enter Tryd.func25, Tryd.ntmps25
  go_wp2_with fail
  refine (clone_any _ xr _ (HS.out.below hB) h8).mono ?_
  rintro e w1 ⟨v1, rfl, hs1, hf1, hb1⟩
  have hB1 := below_trans hB hb1
  have HS1 := Lib.hid hs1
  have HF1 := Lib.hid hf1
  have K0 := HK0.out.below hb1
  have K1 := HK1.out.below hb1
  have y0 := K0.cell 0 _ rfl
  have y1 := K0.cell 1 _ rfl
  have y2 := K0.cell 2 _ rfl
  have y3 := K0.cell 3 _ rfl
  have y4 := K0.cell 4 _ rfl
  have f3 := K0.free 3
  have z0 := K1.cell 0 _ rfl
  have z1 := K1.cell 1 _ rfl
  have z2 := K1.cell 2 _ rfl
  have z3 := K1.cell 3 _ rfl
  have z4 := K1.cell 4 _ rfl
  have g0 := K1.free 0
  have g1 := K1.free 1
  have g2 := K1.free 2
  have g3 := K1.free 3
  have g4 := K1.free 4
  obtain ⟨A1, c1, rfl, -⟩ := id hs1
  clear hs1 hf1
  go_wp2
  have hne : ∀ k, (Value.slice A1 xr.length c1).ownBlock = some k → k ≠ w.heap.size ∧ k ≠ w.heap.size + 1 := fun k hk => by
    have := (HF1.out k hk).1
    simp at this
    omega
  have Z := (((((HK1.out.below hb1).far (p := ⟨w.heap.size, 3, none⟩) (by show w.heap.size + 1 ≠ w.heap.size; omega) (.slice A1 xr.length c1)).set_ 0 (.string sk)).set_ 1 (.int .i64 xt)).set_ 2 (.int .i64 xs)).set_ 3 (.slice A1 xr.length c1) |>.set_ 4 (.bool xm)
  have x0 := Z.cell 0 (.string sk) rfl
  have x1 := Z.cell 1 (.int .i64 xt) rfl
  have x2 := Z.cell 2 (.int .i64 xs) rfl
  have x3 := Z.cell 3 (.slice A1 xr.length c1) rfl
  have x4 := Z.cell 4 (.bool xm) rfl
  have S1 := sl_set HS1.out (p := ⟨w.heap.size, 3, none⟩) (fun _ k hk => (hne k hk).1) (.slice A1 xr.length c1)
  have S2 := sl_set S1 (p := ⟨w.heap.size + 1, 0, none⟩) (fun _ k hk => (hne k hk).2) (.string sk)
  have S3 := sl_set S2 (p := ⟨w.heap.size + 1, 1, none⟩) (fun _ k hk => (hne k hk).2) (.int .i64 xt)
  have S4 := sl_set S3 (p := ⟨w.heap.size + 1, 2, none⟩) (fun _ k hk => (hne k hk).2) (.int .i64 xs)
  have S5 := sl_set S4 (p := ⟨w.heap.size + 1, 3, none⟩) (fun _ k hk => (hne k hk).2) (.slice A1 xr.length c1)
  have S6 := sl_set S5 (p := ⟨w.heap.size + 1, 4, none⟩) (fun _ k hk => (hne k hk).2) (.bool xm)
  have hBB := (((((hB1.setCell (p := ⟨w.heap.size, 3, none⟩) (Nat.le_refl _) (.slice A1 xr.length c1)).setCell (p := ⟨w.heap.size + 1, 0, none⟩) (by simp) (.string sk)).setCell (p := ⟨w.heap.size + 1, 1, none⟩) (by simp) (.int .i64 xt)).setCell (p := ⟨w.heap.size + 1, 2, none⟩) (by simp) (.int .i64 xs)).setCell (p := ⟨w.heap.size + 1, 3, none⟩) (by simp) (.slice A1 xr.length c1)).setCell (p := ⟨w.heap.size + 1, 4, none⟩) (by simp) (.bool xm)
  refine bodyPost_ret (v := .agg #[.string sk, .int .i64 xt, .int .i64 xs, .slice A1 xr.length c1, .bool xm]) (by simp [results, Tryd.results25, go_sem, x0, x1, x2, x3, x4]) rfl ?_
  exact ⟨_, rfl, S6, fun k hk => ⟨by have := (HF1.out k hk).1; simp at this; omega, by have := (HF1.out k hk).2; simpa [World.size_setCell] using this⟩, hBB⟩
end Go.Proofs.YteabfalklgffmaaDoor
