/-
  Plans: planBegun.
-/
import Derived.Test.YtblhidmkalleoaaGreatDoorGrpA5
import Derived.Test.YtblhidmkalleoaaGreatDoorGrpA16
import Derived.Test.YtblhidmkalleoaaGreatDoorPlan20
namespace Go.Proofs.YtblhidmkalleoaaGreatDoor
open Go.RowKit Go.Maps


theorem two_vals (W : World) (a b : Int) : Sl (W.alloc (.cells #[.int .i64 2, .int .i64 a, .string ⟨#[]⟩, .int .i64 2, .int .i64 b, .string ⟨#[]⟩] 112)) (.slice (some ⟨W.heap.size, 0, none⟩) 2 2) 2 (rowCells [numV a, numV b]) :=
  Sl.block (Blk.new W 112 #[.int .i64 2, .int .i64 a, .string ⟨#[]⟩, .int .i64 2, .int .i64 b, .string ⟨#[]⟩]) 2 2 (Nat.le_refl _) (by decide)

set_option maxHeartbeats 400000 in
set_option maxRecDepth 10000 in
theorem lawRow_any (a b : Int) (w : World) : Calls Tryz.prog 63 #[.int .i64 a, .int .i64 b] w fun e w' => ∃ v, e = .returned v ∧ Sl w' v 2 (rowCells [numV a, numV b]) ∧ Below w.heap.size w w' := by
  go_enter Tryz.func63, Tryz.ntmps63
  go_wp2_with fail
  refine (num_any _ _).mono ?_
  rintro e w1 ⟨rfl, hb1⟩
  go_wp2_with fail
  refine (num_any _ _).mono ?_
  rintro e w2 ⟨rfl, hb2⟩
  have hB := below_trans hb1 hb2
  have HS := Lib.hid (two_vals w2 a b)
  go_wp2
  go_ret
  exact ⟨_, rfl, HS.out, hB.alloc hB.size _⟩

def simpleP (vl vr vk vq : Value) : Pl := ⟨1, 4, -5, 5, 0, 2, vl, vr, vk, vq, false, .slice none 0 0, .slice none 0 0, [2, 2], [2, 2], [0], [0], [], []⟩
def countedP (vl vr vk vq vg va : Value) : Pl := ⟨1, 4, -5, 5, 0, 2, vl, vr, vk, vq, true, vg, va, [2, 2], [2, 2], [0], [0], [0], [(1, 0), (2, 1)]⟩
theorem counted_fit (vl vr vk vq vg va : Value) : (countedP vl vr vk vq vg va).fit := ⟨by simp [countedP, I64], by simp [countedP, I64], by simp [countedP, I64], by simp [countedP, I64], by simp [countedP, I64], by simp [countedP]⟩
theorem counted_check (vl vr vk vq vg va : Value) : checkP (countedP vl vr vk vq vg va) = 0 := by rfl
theorem lit_sl (W : World) (l : List Int) (hl : l.length ≤ 1000) (cs : Array Value) (h : cs.toList = intCells l) : Sl (W.alloc (.cells cs 3)) (.slice (some ⟨W.heap.size, 0, none⟩) l.length l.length) l.length (intCells l) := by
  rw [← h]
  exact Sl.block (Blk.new W 3 cs) _ _ (Nat.le_refl _) (by unfold maxLen; omega)

set_option maxHeartbeats 4000000 in
set_option maxRecDepth 10000 in
theorem simple_any (w : World) : Calls Tryz.prog 94 #[] w fun e w' => ∃ vl vr vk vq, e = .returned (.agg #[.int .i64 1, .int .i64 4, .int .i64 (-5), .int .i64 5, .int .i64 0, .int .i64 2, vl, vr, vk, vq, .bool false, .slice none 0 0, .slice none 0 0]) ∧ (simpleP vl vr vk vq).ok w' ∧ (∀ k, vl.ownBlock = some k → w.heap.size ≤ k) ∧ (∀ k, vr.ownBlock = some k → w.heap.size ≤ k) ∧ (∀ k, vk.ownBlock = some k → w.heap.size ≤ k) ∧ (∀ k, vq.ownBlock = some k → w.heap.size ≤ k) ∧ Below w.heap.size w w' := by
  go_enter Tryz.func94, Tryz.ntmps94
  go_wp2
  have S1 := lit_sl (w.alloc (.cells #[.int .i64 1, .int .i64 4, .int .i64 (-5), .int .i64 5, .int .i64 0, .int .i64 2, .slice (some ⟨w.heap.size + 1, 0, none⟩) 2 2, .slice (some ⟨w.heap.size + 1, 0, none⟩) 2 2, .slice (some ⟨w.heap.size + 1 + 1, 0, none⟩) 1 1, .slice (some ⟨w.heap.size + 1 + 1 + 1, 0, none⟩) 1 1, .bool false, .slice none 0 0, .slice none 0 0] 25)) [2, 2] (by decide) #[.int .i64 2, .int .i64 2] rfl
  have S2 := lit_sl ((w.alloc (.cells #[.int .i64 1, .int .i64 4, .int .i64 (-5), .int .i64 5, .int .i64 0, .int .i64 2, .slice (some ⟨w.heap.size + 1, 0, none⟩) 2 2, .slice (some ⟨w.heap.size + 1, 0, none⟩) 2 2, .slice (some ⟨w.heap.size + 1 + 1, 0, none⟩) 1 1, .slice (some ⟨w.heap.size + 1 + 1 + 1, 0, none⟩) 1 1, .bool false, .slice none 0 0, .slice none 0 0] 25)).alloc (.cells #[.int .i64 2, .int .i64 2] 3)) [0] (by decide) #[.int .i64 0] rfl
  have S3 := lit_sl (((w.alloc (.cells #[.int .i64 1, .int .i64 4, .int .i64 (-5), .int .i64 5, .int .i64 0, .int .i64 2, .slice (some ⟨w.heap.size + 1, 0, none⟩) 2 2, .slice (some ⟨w.heap.size + 1, 0, none⟩) 2 2, .slice (some ⟨w.heap.size + 1 + 1, 0, none⟩) 1 1, .slice (some ⟨w.heap.size + 1 + 1 + 1, 0, none⟩) 1 1, .bool false, .slice none 0 0, .slice none 0 0] 25)).alloc (.cells #[.int .i64 2, .int .i64 2] 3)).alloc (.cells #[.int .i64 0] 3)) [0] (by decide) #[.int .i64 0] rfl
  have hB := below_trans (below_trans (below_trans (below_alloc w (.cells #[.int .i64 1, .int .i64 4, .int .i64 (-5), .int .i64 5, .int .i64 0, .int .i64 2, .slice (some ⟨w.heap.size + 1, 0, none⟩) 2 2, .slice (some ⟨w.heap.size + 1, 0, none⟩) 2 2, .slice (some ⟨w.heap.size + 1 + 1, 0, none⟩) 1 1, .slice (some ⟨w.heap.size + 1 + 1 + 1, 0, none⟩) 1 1, .bool false, .slice none 0 0, .slice none 0 0] 25)) (below_alloc _ (.cells #[.int .i64 2, .int .i64 2] 3))) (below_alloc _ (.cells #[.int .i64 0] 3))) (below_alloc _ (.cells #[.int .i64 0] 3))
  have S1' := (S1.below (below_alloc _ (.cells #[.int .i64 0] 3))).below (below_alloc _ (.cells #[.int .i64 0] 3))
  have S2' := S2.below (below_alloc _ (.cells #[.int .i64 0] 3))
  simp only [World.size_alloc] at S1' S2' S3
  refine bodyPost_ret (v := .agg #[.int .i64 1, .int .i64 4, .int .i64 (-5), .int .i64 5, .int .i64 0, .int .i64 2, .slice (some ⟨w.heap.size + 1, 0, none⟩) 2 2, .slice (some ⟨w.heap.size + 1, 0, none⟩) 2 2, .slice (some ⟨w.heap.size + 1 + 1, 0, none⟩) 1 1, .slice (some ⟨w.heap.size + 1 + 1 + 1, 0, none⟩) 1 1, .bool false, .slice none 0 0, .slice none 0 0]) (by simp [results, Tryz.results94, go_sem]) rfl ?_
  refine ⟨_, _, _, _, rfl, ⟨S1', S1', S2', S3, Sl.nil_ _, Sl.nil_ _⟩, fresh_some (by omega), fresh_some (by omega), fresh_some (by omega), fresh_some (by omega), hB⟩

theorem two_aggs (W : World) : Sl (W.alloc (.cells #[.int .i64 1, .int .i64 0, .int .i64 2, .int .i64 1] 106)) (.slice (some ⟨W.heap.size, 0, none⟩) 2 2) 2 (aggCells [(1, 0), (2, 1)]) :=
  Sl.block (Blk.new W 106 #[.int .i64 1, .int .i64 0, .int .i64 2, .int .i64 1]) 2 2 (Nat.le_refl _) (by decide)
theorem Sl.sets {w : World} {v : Value} {n g : Nat} {cs : List Value} (h : Sl w v n cs) (hp : ∀ k, v.ownBlock = some k → k ≠ g) (l : List (Nat × Value)) : Sl (l.foldl (fun w q => w.setCell ⟨g, q.1, none⟩ q.2) w) v n cs := by
  induction l generalizing w with
  | nil => exact h
  | cons q l ih => exact ih (h.setCell hp q.2)
theorem below_sets {B g : Nat} {a w : World} (h : Below B a w) (hg : B ≤ g) (l : List (Nat × Value)) : Below B a (l.foldl (fun w q => w.setCell ⟨g, q.1, none⟩ q.2) w) := by
  induction l generalizing w with
  | nil => exact h
  | cons q l ih => exact ih (h.setCell hg q.2)

set_option maxHeartbeats 4000000 in
set_option maxRecDepth 10000 in
theorem counted_any (w : World) : Calls Tryz.prog 64 #[] w fun e w' => ∃ vl vr vk vq vg va, e = .returned (.agg #[.int .i64 1, .int .i64 4, .int .i64 (-5), .int .i64 5, .int .i64 0, .int .i64 2, vl, vr, vk, vq, .bool true, vg, va]) ∧ (countedP vl vr vk vq vg va).ok w' ∧ Below w.heap.size w w' := by
  have hB := below_alloc w (.cells #[.int .i64 0, .int .i64 0, .int .i64 0, .int .i64 0, .int .i64 0, .int .i64 0, .slice none 0 0, .slice none 0 0, .slice none 0 0, .slice none 0 0, .bool false, .slice none 0 0, .slice none 0 0] 25)
  have K0 := Blk.new w 25 #[.int .i64 0, .int .i64 0, .int .i64 0, .int .i64 0, .int .i64 0, .int .i64 0, .slice none 0 0, .slice none 0 0, .slice none 0 0, .slice none 0 0, .bool false, .slice none 0 0, .slice none 0 0]
  go_enter Tryz.func64, Tryz.ntmps64
  go_wp2_with fail
  refine (simple_any _).mono ?_
  rintro e w1 ⟨vl, vr, vk, vq, rfl, hok, hl, hr, hk', hq, hb1⟩
  have K1 := K0.below hb1
  have HOK := Lib.hid hok
  obtain ⟨⟨A0, c0, e0, -⟩, ⟨A1, c1, e1, -⟩, ⟨A2, c2, e2, -⟩, ⟨A3, c3, e3, -⟩, -, -⟩ := hok
  simp only [simpleP] at e0 e1 e2 e3
  subst e0 e1 e2 e3
  have K2 := ((K1.alloc (.cells #[.int .i64 1, .int .i64 4, .int .i64 (-5), .int .i64 5, .int .i64 0, .int .i64 2, .slice A0 2 c0, .slice A1 2 c1, .slice A2 1 c2, .slice A3 1 c3, .bool true, .slice (some ⟨w1.heap.size + 1, 0, none⟩) 1 1, .slice (some ⟨w1.heap.size + 1 + 1, 0, none⟩) 2 2] 25)).alloc (.cells #[.int .i64 0] 3)).alloc (.cells #[.int .i64 1, .int .i64 0, .int .i64 2, .int .i64 1] 106)
  obtain ⟨y0, y1, y2, y3, y4, y5, y6, y7, y8, y9, y10, y11, y12⟩ := pl_cells K2
  have f0 := K2.free 0
  have f1 := K2.free 1
  have f2 := K2.free 2
  have f3 := K2.free 3
  have f4 := K2.free 4
  have f5 := K2.free 5
  have f6 := K2.free 6
  have f7 := K2.free 7
  have f8 := K2.free 8
  have f9 := K2.free 9
  have f10 := K2.free 10
  have f11 := K2.free 11
  have f12 := K2.free 12
  go_wp2
  have K3 : Blk _ w.heap.size 25 #[.int .i64 1, .int .i64 4, .int .i64 (-5), .int .i64 5, .int .i64 0, .int .i64 2, .slice A0 2 c0, .slice A1 2 c1, .slice A2 1 c2, .slice A3 1 c3, .bool true, .slice (some ⟨w1.heap.size + 1, 0, none⟩) 1 1, .slice (some ⟨w1.heap.size + 1 + 1, 0, none⟩) 2 2] := (((((((((((((K2.set_ 0 (.int .i64 1)).set_ 1 (.int .i64 4)).set_ 2 (.int .i64 (-5))).set_ 3 (.int .i64 5)).set_ 4 (.int .i64 0)).set_ 5 (.int .i64 2)).set_ 6 (.slice A0 2 c0)).set_ 7 (.slice A1 2 c1)).set_ 8 (.slice A2 1 c2)).set_ 9 (.slice A3 1 c3)).set_ 10 (.bool true)).set_ 11 (.slice (some ⟨w1.heap.size + 1, 0, none⟩) 1 1)).set_ 12 (.slice (some ⟨w1.heap.size + 1 + 1, 0, none⟩) 2 2))
  obtain ⟨z0, z1, z2, z3, z4, z5, z6, z7, z8, z9, z10, z11, z12⟩ := pl_cells K3
  refine bodyPost_ret (v := .agg #[.int .i64 1, .int .i64 4, .int .i64 (-5), .int .i64 5, .int .i64 0, .int .i64 2, .slice A0 2 c0, .slice A1 2 c1, .slice A2 1 c2, .slice A3 1 c3, .bool true, .slice (some ⟨w1.heap.size + 1, 0, none⟩) 1 1, .slice (some ⟨w1.heap.size + 1 + 1, 0, none⟩) 2 2]) (by simp [results, Tryz.results64, go_sem, z0, z1, z2, z3, z4, z5, z6, z7, z8, z9, z10, z11, z12]) rfl ?_
  have hw1 : w.heap.size + 1 ≤ w1.heap.size := by have := hb1.size; simpa using this
  have b1 := below_alloc w1 (.cells #[.int .i64 1, .int .i64 4, .int .i64 (-5), .int .i64 5, .int .i64 0, .int .i64 2, .slice A0 2 c0, .slice A1 2 c1, .slice A2 1 c2, .slice A3 1 c3, .bool true, .slice (some ⟨w1.heap.size + 1, 0, none⟩) 1 1, .slice (some ⟨w1.heap.size + 1 + 1, 0, none⟩) 2 2] 25)
  have b2 := below_trans b1 (below_alloc _ (.cells #[.int .i64 0] 3))
  have b3 := below_trans b2 (below_alloc _ (.cells #[.int .i64 1, .int .i64 0, .int .i64 2, .int .i64 1] 106))
  have SG := (lit_sl (w1.alloc (.cells #[.int .i64 1, .int .i64 4, .int .i64 (-5), .int .i64 5, .int .i64 0, .int .i64 2, .slice A0 2 c0, .slice A1 2 c1, .slice A2 1 c2, .slice A3 1 c3, .bool true, .slice (some ⟨w1.heap.size + 1, 0, none⟩) 1 1, .slice (some ⟨w1.heap.size + 1 + 1, 0, none⟩) 2 2] 25)) [0] (by decide) #[.int .i64 0] rfl).below (below_alloc _ (.cells #[.int .i64 1, .int .i64 0, .int .i64 2, .int .i64 1] 106))
  have SA := two_aggs ((w1.alloc (.cells #[.int .i64 1, .int .i64 4, .int .i64 (-5), .int .i64 5, .int .i64 0, .int .i64 2, .slice A0 2 c0, .slice A1 2 c1, .slice A2 1 c2, .slice A3 1 c3, .bool true, .slice (some ⟨w1.heap.size + 1, 0, none⟩) 1 1, .slice (some ⟨w1.heap.size + 1 + 1, 0, none⟩) 2 2] 25)).alloc (.cells #[.int .i64 0] 3))
  simp only [World.size_alloc] at SG SA
  have hok := HOK.out
  refine ⟨_, _, _, _, _, _, rfl, ⟨?_, ?_, ?_, ?_, ?_, ?_⟩, ?_⟩
  · exact (hok.l.below b3).sets (fun k hk => by have := hl k hk; simp at this; omega) [(0, .int .i64 1), (1, .int .i64 4), (2, .int .i64 (-5)), (3, .int .i64 5), (4, .int .i64 0), (5, .int .i64 2), (6, .slice A0 2 c0), (7, .slice A1 2 c1), (8, .slice A2 1 c2), (9, .slice A3 1 c3), (10, .bool true), (11, .slice (some ⟨w1.heap.size + 1, 0, none⟩) 1 1), (12, .slice (some ⟨w1.heap.size + 1 + 1, 0, none⟩) 2 2)]
  · exact (hok.r.below b3).sets (fun k hk => by have := hr k hk; simp at this; omega) [(0, .int .i64 1), (1, .int .i64 4), (2, .int .i64 (-5)), (3, .int .i64 5), (4, .int .i64 0), (5, .int .i64 2), (6, .slice A0 2 c0), (7, .slice A1 2 c1), (8, .slice A2 1 c2), (9, .slice A3 1 c3), (10, .bool true), (11, .slice (some ⟨w1.heap.size + 1, 0, none⟩) 1 1), (12, .slice (some ⟨w1.heap.size + 1 + 1, 0, none⟩) 2 2)]
  · exact (hok.k.below b3).sets (fun k hk => by have := hk' k hk; simp at this; omega) [(0, .int .i64 1), (1, .int .i64 4), (2, .int .i64 (-5)), (3, .int .i64 5), (4, .int .i64 0), (5, .int .i64 2), (6, .slice A0 2 c0), (7, .slice A1 2 c1), (8, .slice A2 1 c2), (9, .slice A3 1 c3), (10, .bool true), (11, .slice (some ⟨w1.heap.size + 1, 0, none⟩) 1 1), (12, .slice (some ⟨w1.heap.size + 1 + 1, 0, none⟩) 2 2)]
  · exact (hok.q.below b3).sets (fun k hk => by have := hq k hk; simp at this; omega) [(0, .int .i64 1), (1, .int .i64 4), (2, .int .i64 (-5)), (3, .int .i64 5), (4, .int .i64 0), (5, .int .i64 2), (6, .slice A0 2 c0), (7, .slice A1 2 c1), (8, .slice A2 1 c2), (9, .slice A3 1 c3), (10, .bool true), (11, .slice (some ⟨w1.heap.size + 1, 0, none⟩) 1 1), (12, .slice (some ⟨w1.heap.size + 1 + 1, 0, none⟩) 2 2)]
  · exact SG.sets (fun k hk => by simp [Value.ownBlock] at hk; omega) [(0, .int .i64 1), (1, .int .i64 4), (2, .int .i64 (-5)), (3, .int .i64 5), (4, .int .i64 0), (5, .int .i64 2), (6, .slice A0 2 c0), (7, .slice A1 2 c1), (8, .slice A2 1 c2), (9, .slice A3 1 c3), (10, .bool true), (11, .slice (some ⟨w1.heap.size + 1, 0, none⟩) 1 1), (12, .slice (some ⟨w1.heap.size + 1 + 1, 0, none⟩) 2 2)]
  · exact SA.sets (fun k hk => by simp [Value.ownBlock] at hk; omega) [(0, .int .i64 1), (1, .int .i64 4), (2, .int .i64 (-5)), (3, .int .i64 5), (4, .int .i64 0), (5, .int .i64 2), (6, .slice A0 2 c0), (7, .slice A1 2 c1), (8, .slice A2 1 c2), (9, .slice A3 1 c3), (10, .bool true), (11, .slice (some ⟨w1.heap.size + 1, 0, none⟩) 1 1), (12, .slice (some ⟨w1.heap.size + 1 + 1, 0, none⟩) 2 2)]
  · exact below_sets (below_trans (below_trans hB hb1) b3) (Nat.le_refl _) [(0, .int .i64 1), (1, .int .i64 4), (2, .int .i64 (-5)), (3, .int .i64 5), (4, .int .i64 0), (5, .int .i64 2), (6, .slice A0 2 c0), (7, .slice A1 2 c1), (8, .slice A2 1 c2), (9, .slice A3 1 c3), (10, .bool true), (11, .slice (some ⟨w1.heap.size + 1, 0, none⟩) 1 1), (12, .slice (some ⟨w1.heap.size + 1 + 1, 0, none⟩) 2 2)]

end Go.Proofs.YtblhidmkalleoaaGreatDoor
