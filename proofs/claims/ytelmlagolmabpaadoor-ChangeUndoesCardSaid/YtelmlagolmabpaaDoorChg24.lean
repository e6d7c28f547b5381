/-
  What must be in any case: the plain facts.
-/
import Derived.Test.YtelmlagolmabpaaDoorChg23
import Derived.Test.YtelmlagolmabpaaDoorChgM6
import Derived.Test.YtelmlagolmabpaaDoorChgB0
set_option linter.unusedSimpArgs false
set_option linter.unusedVariables false
namespace Go.Proofs.YtelmlagolmabpaaDoor
open Go.RowKit Go.Maps

def bg1 (va vb : Value) : List Chn := [⟨va, [numV 1], 1⟩, ⟨vb, [numV 2], 1⟩, ⟨va, [numV 1], 3⟩, ⟨vb, [numV 2], 4⟩]
def bg2 (va vb : Value) : List Chn := [⟨va, [numV 1], 2⟩, ⟨vb, [numV 2], 1⟩]
theorem num_check (n : Int) : checkV (numV n) = 0 := by unfold checkV numV; simp [ByteArray.toList_eq]
theorem num_err (n : Int) : keyErr [numV n] = 0 := by unfold keyErr; simp [firstNZ, num_check]
theorem num_fine (n : Int) (h : -9223372036854775808 ≤ n ∧ n ≤ 9223372036854775807) : Fine [numV n] := by
  have := nums_fine n n h h
  exact ⟨fun x hx => this.small x (by simp at hx; simp [hx]), fun x hx => this.nums x (by simp at hx; simp [hx])⟩
theorem num_good (n : Int) (h : -9223372036854775808 ≤ n ∧ n ≤ 9223372036854775807) : GoodR [numV n] := goodR_of (num_fine n h) (num_err n)
theorem n11 : rowsF [numV 1] [numV 1] = 0 := rowsF_self (num_good 1 (by omega))
theorem n22 : rowsF [numV 2] [numV 2] = 0 := rowsF_self (num_good 2 (by omega))
theorem n12 : rowsF [numV 1] [numV 2] = -1 := by rfl
theorem n21 : rowsF [numV 2] [numV 1] = 1 := by rfl
theorem bg_form1 (va vb : Value) : formC (bg1 va vb) = 0 := by
  simp [formC, bg1, errAt, kAt, num_err, firstNZ, List.range, List.range.loop, btw]
theorem bg_form2 (va vb : Value) : formC (bg2 va vb) = 0 := by
  simp [formC, bg2, errAt, kAt, num_err, firstNZ, List.range, List.range.loop, btw]
theorem bg_chk : chkV [] = 0 := by rfl
theorem bg_fold (va vb : Value) : foldS [] (bg1 va vb) = ([([numV 2], 2)], 0, 0) := by
  unfold foldS
  rw [bg_chk, bg_form1]
  simp [bg1, ac, av, foldR, addR, stepI, lookA, hasA, putA, delA, n11, n12, n21, n22]
theorem bg_net (va vb : Value) : netS (bg2 va vb) = ([(2, [numV 1]), (1, [numV 2])], 0) := by
  unfold netS
  rw [bg_form2]
  have h : netR [] (ac (bg2 va vb)) = [([numV 1], -1), ([numV 2], 1)] := by simp [bg2, ac, netR, stepI, lookA, putA, n12]
  rw [h]
  rfl
theorem one_numV (W : World) (n : Int) : Sl (W.alloc (.cells #[.int .i64 2, .int .i64 n, .string ⟨#[]⟩] 79)) (.slice (some ⟨W.heap.size, 0, none⟩) 1 1) 1 (rowCells [numV n]) := Sl.block (Blk.new W 79 #[.int .i64 2, .int .i64 n, .string ⟨#[]⟩]) 1 1 (Nat.le_refl _) (by decide)

set_option maxHeartbeats 4000000 in
set_option maxRecDepth 10000 in
theorem changeBegun_any (w : World) (hm : Mx w) : Calls Tryd.prog 32 #[] w fun e w' => e = .returned (.bool true) ∧ Below w.heap.size w w' := by
  have HM := Lib.hid hm
  clear hm
  go_enter Tryd.func32, Tryd.ntmps32
  go_wp2_with fail
  refine (num_any 1 _).mono ?_
  rintro e w1 ⟨rfl, hb1⟩
  have S1 := Lib.hid (one_numV w1 1)
  have B1 := hb1.alloc hb1.size (.cells #[.int .i64 2, .int .i64 1, .string ⟨#[]⟩] 79)
  clear hb1
  go_wp2_with fail
  refine (num_any 2 _).mono ?_
  rintro e w2 ⟨rfl, hb2⟩
  have S1' := Lib.hid ((S1.out.below hb2).below (below_alloc w2 (.cells #[.int .i64 2, .int .i64 2, .string ⟨#[]⟩] 79)))
  have S2 := Lib.hid (one_numV w2 2)
  have B2 := (below_trans B1 hb2).alloc (below_trans B1 hb2).size (.cells #[.int .i64 2, .int .i64 2, .string ⟨#[]⟩] 79)
  clear hb2 B1 S1
  go_wp2_with fail
  have C3 : Hid (Chs ((w2.alloc (.cells #[.int .i64 2, .int .i64 2, .string ⟨#[]⟩] 79)).alloc (.cells #[.int .i64 1, .slice (some ⟨w1.heap.size, 0, none⟩) 1 1, .int .i64 1, .slice (some ⟨w2.heap.size, 0, none⟩) 1 1, .int .i64 3, .slice (some ⟨w1.heap.size, 0, none⟩) 1 1, .int .i64 4, .slice (some ⟨w2.heap.size, 0, none⟩) 1 1] 92))
      (.slice (some ⟨w2.heap.size + 1, 0, none⟩) 4 4) (bg1 (.slice (some ⟨w1.heap.size, 0, none⟩) 1 1) (.slice (some ⟨w2.heap.size, 0, none⟩) 1 1))) := Lib.hid ⟨Sl.block (new_second w2 92 #[.int .i64 1, .slice (some ⟨w1.heap.size, 0, none⟩) 1 1, .int .i64 1, .slice (some ⟨w2.heap.size, 0, none⟩) 1 1, .int .i64 3, .slice (some ⟨w1.heap.size, 0, none⟩) 1 1, .int .i64 4, .slice (some ⟨w2.heap.size, 0, none⟩) 1 1] _) 4 4 (Nat.le_refl _) (by decide), fun c hc => by
        simp only [bg1, List.mem_cons, List.mem_nil_iff, or_false] at hc
        rcases hc with rfl | rfl | rfl | rfl
        · exact S1'.out.below (below_alloc _ _)
        · exact S2.out.below (below_alloc _ _)
        · exact S1'.out.below (below_alloc _ _)
        · exact S2.out.below (below_alloc _ _)⟩
  have F3 : Hid (FineC (bg1 (.slice (some ⟨w1.heap.size, 0, none⟩) 1 1) (.slice (some ⟨w2.heap.size, 0, none⟩) 1 1))) := Lib.hid ⟨fun c hc => by
        simp only [bg1, List.mem_cons, List.mem_nil_iff, or_false] at hc
        rcases hc with rfl | rfl | rfl | rfl <;> exact num_fine _ (by omega), fun c hc => by
        simp only [bg1, List.mem_cons, List.mem_nil_iff, or_false] at hc
        rcases hc with rfl | rfl | rfl | rfl <;> simp⟩
  have B3 := B2.alloc B2.size (.cells #[.int .i64 1, .slice (some ⟨w1.heap.size, 0, none⟩) 1 1, .int .i64 1, .slice (some ⟨w2.heap.size, 0, none⟩) 1 1, .int .i64 3, .slice (some ⟨w1.heap.size, 0, none⟩) 1 1, .int .i64 4, .slice (some ⟨w2.heap.size, 0, none⟩) 1 1] 92)
  refine (cfold_any _ _ [] _ _ (View.nil _) ⟨nofun, nofun⟩ C3.out F3.out (HM.out.below B3)).mono ?_
  rw [bg_fold]
  rintro e w3 ⟨v3, l3, rfl, hV3, ha3, hb3⟩
  have HV3 := Lib.hid hV3
  have HA3 := Lib.hid ha3
  have S1b := Lib.hid ((S1'.out.below (below_alloc _ (.cells #[.int .i64 1, .slice (some ⟨w1.heap.size, 0, none⟩) 1 1, .int .i64 1, .slice (some ⟨w2.heap.size, 0, none⟩) 1 1, .int .i64 3, .slice (some ⟨w1.heap.size, 0, none⟩) 1 1, .int .i64 4, .slice (some ⟨w2.heap.size, 0, none⟩) 1 1] 92))).below hb3)
  have S2b := Lib.hid ((S2.out.below (below_alloc _ (.cells #[.int .i64 1, .slice (some ⟨w1.heap.size, 0, none⟩) 1 1, .int .i64 1, .slice (some ⟨w2.heap.size, 0, none⟩) 1 1, .int .i64 3, .slice (some ⟨w1.heap.size, 0, none⟩) 1 1, .int .i64 4, .slice (some ⟨w2.heap.size, 0, none⟩) 1 1] 92))).below hb3)
  have B4 := below_trans B3 hb3
  clear hb3 B3 B2 C3 F3 S1' S2 hV3 ha3
  go_wp2_with fail
  have C4 : Hid (Chs (w3.alloc (.cells #[.int .i64 2, .slice (some ⟨w1.heap.size, 0, none⟩) 1 1, .int .i64 1, .slice (some ⟨w2.heap.size, 0, none⟩) 1 1] 92))
      (.slice (some ⟨w3.heap.size, 0, none⟩) 2 2) (bg2 (.slice (some ⟨w1.heap.size, 0, none⟩) 1 1) (.slice (some ⟨w2.heap.size, 0, none⟩) 1 1))) := Lib.hid ⟨Sl.block (Blk.new w3 92 #[.int .i64 2, .slice (some ⟨w1.heap.size, 0, none⟩) 1 1, .int .i64 1, .slice (some ⟨w2.heap.size, 0, none⟩) 1 1]) 2 2 (Nat.le_refl _) (by decide), fun c hc => by
        simp only [bg2, List.mem_cons, List.mem_nil_iff, or_false] at hc
        rcases hc with rfl | rfl
        · exact S1b.out.below (below_alloc _ _)
        · exact S2b.out.below (below_alloc _ _)⟩
  have F4 : Hid (FineC (bg2 (.slice (some ⟨w1.heap.size, 0, none⟩) 1 1) (.slice (some ⟨w2.heap.size, 0, none⟩) 1 1))) := Lib.hid ⟨fun c hc => by
        simp only [bg2, List.mem_cons, List.mem_nil_iff, or_false] at hc
        rcases hc with rfl | rfl <;> exact num_fine _ (by omega), fun c hc => by
        simp only [bg2, List.mem_cons, List.mem_nil_iff, or_false] at hc
        rcases hc with rfl | rfl <;> simp⟩
  have B5 := B4.alloc B4.size (.cells #[.int .i64 2, .slice (some ⟨w1.heap.size, 0, none⟩) 1 1, .int .i64 1, .slice (some ⟨w2.heap.size, 0, none⟩) 1 1] 92)
  refine (cnet_any _ _ _ C4.out F4.out (HM.out.below B5)).mono ?_
  rw [bg_net]
  rintro e w4 ⟨v4, l4, rfl, hC4, ha4, hb4⟩
  have B6 := below_trans B5 hb4
  have hl4 : l4.length = 2 := by rw [← ac_len, ha4]; rfl
  have hx : l4[0]? = some l4[0] := List.getElem?_eq_getElem (by omega)
  have hk : l4[0].k = 2 := by
    have h1 : (ac l4)[0]? = some (2, [numV 1]) := by rw [ha4]; rfl
    rw [ac, List.getElem?_map, hx] at h1
    injection h1 with h1
    injection h1
  obtain ⟨A4, c4, e4, hc4a, hc4b, -⟩ := id hC4.sl
  rw [hl4] at e4
  subst e4
  obtain ⟨g, off, rfl, -, hcc⟩ := chn_at hC4.sl rfl hx
  have d1 := (hcc _ (Below.refl _ _)).1
  rw [hk, Nat.zero_mul, Nat.add_zero] at d1
  have HV4 := Lib.hid ((HV3.out.below (below_alloc w3 (.cells #[.int .i64 2, .slice (some ⟨w1.heap.size, 0, none⟩) 1 1, .int .i64 1, .slice (some ⟨w2.heap.size, 0, none⟩) 1 1] 92))).below hb4)
  have S2c := Lib.hid ((S2b.out.below (below_alloc w3 (.cells #[.int .i64 2, .slice (some ⟨w1.heap.size, 0, none⟩) 1 1, .int .i64 1, .slice (some ⟨w2.heap.size, 0, none⟩) 1 1] 92))).below hb4)
  have HVN : Hid (View (w4.alloc (.cells #[.slice (some ⟨w2.heap.size, 0, none⟩) 1 1, .int .i64 2] 99)) (.slice (some ⟨w4.heap.size, 0, none⟩) 1 1) [⟨.slice (some ⟨w2.heap.size, 0, none⟩) 1 1, [numV 2], 2⟩]) :=
    Lib.hid ⟨one_cnt w4 ⟨.slice (some ⟨w2.heap.size, 0, none⟩) 1 1, [numV 2], 2⟩, fun c hc => by
      rw [List.mem_singleton.1 hc]
      exact S2c.out.below (below_alloc _ _)⟩
  have B7 := B6.alloc B6.size (.cells #[.slice (some ⟨w2.heap.size, 0, none⟩) 1 1, .int .i64 2] 99)
  clear hcc hC4 ha4 hb4 hx C4 F4 B5 B4 S1b S2b
  go_wp2_with fail
  refine (sameViews_any _ _ l3 _ _ (HV4.out.below (below_alloc _ _)) HVN.out HA3.out).mono ?_
  rintro e w5 ⟨rfl, hb5⟩
  have B8 := below_trans B7 hb5
  clear hb5
  go_wp2
  go_ret
  exact ⟨rfl, B8⟩
end Go.Proofs.YtelmlagolmabpaaDoor
