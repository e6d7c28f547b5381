/-
  The walk of diskBegun.
-/
import Derived.Test.YteamepgonmdilaaDisk10
namespace Go.Proofs.Yteamepgonmdilaa
open Go.RowKit

theorem toList_mk (a : Array UInt8) : (⟨a⟩ : ByteArray).toList = a.toList := by rw [ByteArray.toList_eq]
def abcS : Slot := ⟨⟨#[]⟩, ⟨#[97, 98, 99]⟩, true⟩
theorem b_check0 : checkD [Slot.none, Slot.none] = 0 := by
  simp [checkD, Slot.none, Slot.bad, toList_mk]
theorem b_check1 : checkD [Slot.none, abcS] = 0 := by
  simp [checkD, Slot.none, abcS, Slot.bad, toList_mk]
theorem b_new : newF 2 = ([Slot.none, Slot.none], 0) := rfl
theorem b_write : turnF [Slot.none, Slot.none] 1 (writeS ⟨#[97, 98, 99]⟩) = ([Slot.none, abcS], 0) := by
  have := turn_ok (l := [Slot.none, Slot.none]) (k := 1) (s := Slot.none) (f := writeS ⟨#[97, 98, 99]⟩) b_check0 rfl
  simpa [writeS, abcS, Slot.none] using this
theorem b_crash : crashR [0, 2] [Slot.none, abcS] = ([Slot.none, ⟨⟨#[97, 98]⟩, ⟨#[]⟩, false⟩], 0) := by
  unfold crashR
  rw [if_neg (by simp [b_check1])]
  rfl
theorem b_check2 : checkD [Slot.none, ⟨⟨#[97, 98]⟩, ⟨#[]⟩, false⟩] = 0 := by
  simp [checkD, Slot.none, Slot.bad, toList_mk]
theorem b_read2 : readF [Slot.none, ⟨⟨#[97, 98]⟩, ⟨#[]⟩, false⟩] 1 = (⟨#[97, 98]⟩, 0) := by
  have := turn_ok (l := [Slot.none, ⟨⟨#[97, 98]⟩, ⟨#[]⟩, false⟩]) (k := 1) (s := ⟨⟨#[97, 98]⟩, ⟨#[]⟩, false⟩) (f := settleS) b_check2 rfl
  unfold readF
  simp only [Int.natCast_one] at this
  rw [this]
  rfl
theorem b_read1 : readF [Slot.none, abcS] 1 = (⟨#[97, 98, 99]⟩, 0) := by
  have := turn_ok (l := [Slot.none, abcS]) (k := 1) (s := abcS) (f := settleS) b_check1 rfl
  unfold readF
  simp only [Int.natCast_one] at this
  rw [this]
  rfl

set_option maxHeartbeats 2000000 in
theorem diskBegun_any (w : World) : Calls Try.prog 28 #[] w fun e w' => e = .returned (.bool true) ∧ Below w.heap.size w w' := by
  go_enter Try.func28, Try.ntmps28
  go_wp2_with fail
  refine (new_any 2 _).mono ?_
  rw [b_new]
  rintro e w1 ⟨v0, rfl, hs0, hf0, hb1⟩
  have H0 := Lib.hid hs0
  obtain ⟨A0, c0, hv0, -⟩ := hs0
  subst hv0
  clear hf0
  go_wp2_with fail
  refine (write_any _ [Slot.none, Slot.none] 1 ⟨#[97, 98, 99]⟩ _ (H0.out.below (below_alloc _ _))).mono ?_
  rw [b_write]
  rintro e w2 ⟨v1, rfl, hs1, hf1, hb2⟩
  have y1 := (Blk.new w1 37 #[.slice A0 [Slot.none, Slot.none].length c0]).below hb2
  have x1 := y1.cell 0 _ rfl
  have g1 := y1.free 0
  have H1 := Lib.hid hs1
  have F1 := Lib.hid hf1
  obtain ⟨A1, c1, hv1, -⟩ := hs1
  subst hv1
  clear hf1
  go_wp2_with fail
  simp only [World.size_alloc] at F1
  have K1 := Lib.hid (H1.out.setCell (p := ⟨w1.heap.size, 0, none⟩) (fresh_ne F1.out (by simp)) (.slice A1 2 c1))
  have z1 := y1.set_ 0 (.slice A1 2 c1)
  have hcv : Sl ((w2.setCell ⟨w1.heap.size, 0, none⟩ (.slice A1 2 c1)).alloc (.cells #[.int .i64 0, .int .i64 2] 3)) (.slice (some ⟨w2.heap.size, 0, none⟩) 2 2) 2 (intCells [0, 2]) := by
    have := Sl.block (Blk.new (w2.setCell ⟨w1.heap.size, 0, none⟩ (.slice A1 2 c1)) 3 #[.int .i64 0, .int .i64 2]) 2 2 (Nat.le_refl _) (by decide)
    simpa [World.setCell, intCells] using this
  refine (crash_any _ _ [Slot.none, abcS] [0, 2] _ (K1.out.below (below_alloc _ _)) hcv).mono ?_
  rw [b_crash]
  rintro e w3 ⟨v2, rfl, hs2, hf2, hb3⟩
  have z2 := (z1.alloc (.cells #[.int .i64 0, .int .i64 2] 3)).below hb3
  have x2 := fun o => (z2.alloc o).cell 0 _ rfl
  have x2' := z2.cell 0 _ rfl
  have K2 := Lib.hid ((K1.out.below (below_alloc _ (.cells #[.int .i64 0, .int .i64 2] 3))).below hb3)
  have H2 := Lib.hid hs2
  have hz2 := z2.lt
  obtain ⟨A2, c2, hv2, -⟩ := hs2
  subst hv2
  clear hf2 x1 g1 hcv
  go_wp2_with fail
  refine (read_any _ [Slot.none, ⟨⟨#[97, 98]⟩, ⟨#[]⟩, false⟩] 1 _ (H2.out.below (below_alloc _ _))).mono ?_
  rw [b_read2]
  rintro e w4 ⟨rfl, hb4⟩
  have z3 := (z2.alloc (.cells #[.slice A2 2 c2] 37)).below hb4
  have x3 := z3.cell 0 _ rfl
  clear x2 x2'
  go_wp2_with fail
  refine (read_any _ [Slot.none, abcS] 1 _ ((K2.out.below (below_alloc _ (.cells #[.slice A2 2 c2] 37))).below hb4)).mono ?_
  rw [b_read1]
  rintro e w5 ⟨rfl, hb5⟩
  have t1 := toList_mk #[97, 98]
  have t2 := toList_mk #[97, 98, 99]
  go_wp2
  go_ret
  refine ⟨rfl, ?_⟩
  have s1 : Below w.heap.size w (w2.setCell ⟨w1.heap.size, 0, none⟩ (.slice A1 2 c1)) := (below_trans (below_trans hb1 (below_alloc _ _)) hb2).setCell hb1.size _
  exact below_trans (below_trans (below_trans (below_trans (below_trans s1 (below_alloc _ _)) hb3) (below_alloc _ _)) hb4) hb5

end Go.Proofs.Yteamepgonmdilaa
