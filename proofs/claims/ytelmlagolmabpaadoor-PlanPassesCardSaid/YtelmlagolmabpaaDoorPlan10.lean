/-
  Plans: the reference's Types.
-/
import Derived.Test.YtelmlagolmabpaaDoorPlan5
set_option linter.unusedSimpArgs false
set_option linter.unusedVariables false
namespace Go.Proofs.YtelmlagolmabpaaDoor
open Go.RowKit

theorem own_empty (W : World) (base : Nat) (h : base ≤ W.heap.size) : (W.alloc (.cells #[] 3)).ownsRow base 3 1 (.slice (some ⟨W.heap.size, 0, none⟩) 0 0) 0 [] :=
  ⟨rfl, .inr ⟨_, 0, #[], rfl, h, heap_alloc_new W _, Nat.le_refl _, by decide, rfl, rfl⟩⟩

set_option maxHeartbeats 4000000 in
set_option maxRecDepth 10000 in
theorem types_any (p : Pl) (w : World) (h : p.ok w) (hl : p.left.length ≤ 1000) (hr : p.right.length ≤ 1000) :
    Calls Tryd.prog 53 #[.agg #[.int .i64 p.kind, .int .i64 p.mode, .int .i64 p.low, .int .i64 p.high, .int .i64 p.size, .int .i64 p.limit, p.vl, p.vr, p.vk, p.vq, .bool p.grouped, p.vg, p.va]] w fun e w' => ∃ v, e = .returned v ∧ Sl w' v (p.left ++ p.right).length (intCells (p.left ++ p.right)) ∧ (∀ k, v.ownBlock = some k → w.heap.size ≤ k) ∧ Below w.heap.size w w' := by
  have HL := Lib.hid h.l
  have HR := Lib.hid h.r
  clear h
  obtain ⟨kind, mode, low, high, size, limit, vl, vr, vk, vq, grouped, vg, va, left, right, lkeys, rkeys, group, aggs⟩ := p
  simp only at HL HR hl hr ⊢
  obtain ⟨A0, c0, rfl, n0, m0, -⟩ := id HL.out
  obtain ⟨A1, c1, rfl, n1, m1, -⟩ := id HR.out
  unfold maxLen at m0 m1
  have K1 := new_first w 25 #[.int .i64 kind, .int .i64 mode, .int .i64 low, .int .i64 high, .int .i64 size, .int .i64 limit, .slice A0 left.length c0, .slice A1 right.length c1, vk, vq, .bool grouped, vg, va] (.cells #[] 3)
  have O1 := own_empty (w.alloc (.cells #[.int .i64 kind, .int .i64 mode, .int .i64 low, .int .i64 high, .int .i64 size, .int .i64 limit, .slice A0 left.length c0, .slice A1 right.length c1, vk, vq, .bool grouped, vg, va] 25)) w.heap.size (by simp)
  rw [World.size_alloc] at O1
  have hB := below_trans (below_alloc w (.cells #[.int .i64 kind, .int .i64 mode, .int .i64 low, .int .i64 high, .int .i64 size, .int .i64 limit, .slice A0 left.length c0, .slice A1 right.length c1, vk, vq, .bool grouped, vg, va] 25)) (below_alloc _ (.cells #[] 3))
  have S1 := Lib.hid (HL.out.below hB).drew
  have hB := hB.drew
  have y6 := K1.drew.cell 6 _ rfl
  have y7 := K1.drew.cell 7 _ rfl
  have L1 := Lib.hid (show (intCells left).length = left.length * 1 from by rw [intCells_len]; omega)
  have L2 := Lib.hid (show (intCells right).length = right.length * 1 from by rw [intCells_len]; omega)
  have B1 : 0 + left.length ≤ maxLen := by unfold maxLen; omega
  have B2 : (0 + left.length) * 8 ≤ 140737488355328 := by omega
  have B3 : 0 + left.length + right.length ≤ maxLen := by unfold maxLen; omega
  have B4 : (0 + left.length + right.length) * 8 ≤ 140737488355328 := by omega
  have HB1 := Lib.hid B1
  have HB2 := Lib.hid B2
  have HB3 := Lib.hid B3
  have HB4 := Lib.hid B4
  have HO1 := Lib.hid (show ((w.alloc (.cells #[.int .i64 kind, .int .i64 mode, .int .i64 low, .int .i64 high, .int .i64 size, .int .i64 limit, .slice A0 left.length c0, .slice A1 right.length c1, vk, vq, .bool grouped, vg, va] 25)).alloc (.cells #[] 3)).drew.ownsRow w.heap.size 3 1 (.slice (some ⟨w.heap.size + 1, 0, none⟩) 0 0) 0 [] from O1)
  have HK1 := Lib.hid K1.drew
  clear B1 B2 B3 B4 O1 K1
  go_enter Tryd.func53, Tryd.ntmps53
  go_wp2_with fail
  go_region_law
    ((first
      | (refine step_app (by rfl) _ _ 22 (by rfl) w.heap.size 3 1 8 Tryd.underlying22 intI (.slice (some ⟨w.heap.size + 1, 0, none⟩) 0 0) 0 _ (by rfl) HO1.out _ left.length (intCells left) (by rfl) S1.out L1.out (intCells_one left) HB1.out HB2.out hB.size ?_
         intro v1 w1 hown1 hgrow hat
         have hb1 := below_grown hB hgrow (own_ge HO1.out)
         have T2 := HR.out.below hb1
         have y7 := (HK1.out.grown hgrow (fun e => by simp [Value.ownBlock] at e)).cell 7 _ rfl)
      | (refine step_app (by rfl) _ _ 22 (by rfl) w.heap.size 3 1 8 Tryd.underlying22 intI v1 (0 + left.length) _ (by rfl) hown1 _ right.length (intCells right) (by rfl) T2 L2.out (intCells_one right) HB3.out HB4.out hb1.size ?_
         intro v2 w2 hown2 hgrow2 hat2)))
  all_goals
    have S3 : Hid (Sl w2 v2 (left ++ right).length (intCells (left ++ right))) := Lib.hid (by
      have := Sl.of_own hown2
      have e : 0 + left.length + right.length = (left ++ right).length := by rw [List.length_append]; omega
      rw [List.nil_append, ← intCells_app, e] at this
      exact this)
    have O3 := Lib.hid (own_ge hown2)
    have B3 := below_grown hb1 hgrow2 (own_ge hown1)
    clear hown1 hown2 hgrow hgrow2
    go_wp2
    go_ret
    exact ⟨_, rfl, S3.out, O3.out, B3⟩

end Go.Proofs.YtelmlagolmabpaaDoor
