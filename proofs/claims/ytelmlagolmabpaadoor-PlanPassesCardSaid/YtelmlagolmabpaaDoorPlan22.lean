/-
  Plans: planBegun, the law PlanChecks.
-/
import Derived.Test.YtelmlagolmabpaaDoorPlan21
namespace Go.Proofs.YtelmlagolmabpaaDoor
open Go.RowKit Go.Maps

set_option maxHeartbeats 4000000 in
set_option maxRecDepth 10000 in
theorem planBegun_any (w : World) (hm : Mx w) : Calls Tryd.prog 16 #[] w fun e w' => e = .returned (.bool true) ∧ Below w.heap.size w w' := by
  have HM := Lib.hid hm
  clear hm
  go_enter Tryd.func16, Tryd.ntmps16
  go_wp2_with fail
  refine (counted_any _).mono ?_
  rintro e w1 ⟨vl, vr, vk, vq, vg, va, rfl, hok, B1⟩
  have H1 := Lib.hid hok
  clear hok
  go_wp2_with fail
  refine (out_any (countedP vl vr vk vq vg va) _ H1.out (counted_fit vl vr vk vq vg va)).mono ?_
  rw [counted_check, counted_out]
  rintro e w2 ⟨v, rfl, ⟨A, c, rfl, -⟩, hb2⟩
  have B2 := below_trans B1 hb2
  clear hb2 B1 H1
  go_wp2_with fail
  refine (simple_any _).mono ?_
  rintro e w3 ⟨sl, sr, sk, sq, rfl, hok, -, -, -, -, hb3⟩
  have H3 := Lib.hid hok
  have B3 := below_trans B2 hb3
  clear hb3 B2 hok
  go_wp2_with fail
  refine (lawRow_any _ _ _).mono ?_
  rintro e w4 ⟨v4, rfl, hs, hb4⟩
  have S4 := Lib.hid hs
  have H4 := Lib.hid (H3.out.below hb4)
  have B4 := below_trans B3 hb4
  clear hb4 B3 hs H3
  go_wp2_with fail
  refine (keyOf_any (simpleP sl sr sk sq) 1 v4 [numV 7, numV 8] _ H4.out (simple_fit sl sr sk sq) S4.out (nums_fine 7 8 (by omega) (by omega)) (HM.out.below B4)).mono ?_
  rw [simple_key, simple_row]
  rintro e w5 ⟨rfl, hb5⟩
  have B5 := below_trans B4 hb5
  have h9 := nine
  generalize str (keyRow [numV 7]) = s at h9 ⊢
  clear hb5 B4 H4 S4
  go_wp2_with fail
  refine (simple_any _).mono ?_
  rintro e w6 ⟨ul, ur, uk, uq, rfl, hok, -, -, -, -, hb6⟩
  have H6 := Lib.hid hok
  have B6 := below_trans B5 hb6
  clear hb6 B5 hok
  go_wp2_with fail
  refine (gone_any (simpleP ul ur uk uq) 1 9 _ H6.out (simple_fit ul ur uk uq)).mono ?_
  rw [simple_gone]
  rintro e w7 ⟨rfl, hb7⟩
  have B7 := below_trans B6 hb7
  clear hb7 B6 H6
  go_wp2_with fail
  refine (simple_any _).mono ?_
  rintro e w8 ⟨tl, tr, tk, tq, rfl, hok, -, -, -, -, hb8⟩
  have H8 := Lib.hid hok
  have B8 := below_trans B7 hb8
  clear hb8 B7 hok
  go_wp2_with fail
  refine (check_any (simpleP tl tr tk tq) _ H8.out (simple_fit tl tr tk tq)).mono ?_
  rw [simple_check]
  rintro e w9 ⟨rfl, hb9⟩
  have B9 := below_trans B8 hb9
  clear hb9 B8 H8
  go_wp2_with fail
  refine (check_any emptyP _ (empty_ok _) empty_fit).mono ?_
  rw [empty_check]
  rintro e w10 ⟨rfl, hb10⟩
  have B10 := below_trans B9 hb10
  clear hb10 B9
  go_wp2
  go_ret
  exact ⟨rfl, B10⟩

set_option maxHeartbeats 4000000 in
set_option maxRecDepth 10000 in
theorem planChecks_walk (p : Pl) (w : World) (h : p.ok w) (hf : p.fit) (hm : Mx w) :
    Calls Tryd.prog 3 #[.agg #[.int .i64 p.kind, .int .i64 p.mode, .int .i64 p.low, .int .i64 p.high, .int .i64 p.size, .int .i64 p.limit, p.vl, p.vr, p.vk, p.vq, .bool p.grouped, p.vg, p.va]] w fun e w' => e = .returned (.bool true) ∧ Below w.heap.size w w' := by
  have HM := Lib.hid hm
  have HO := Lib.hid (fun w' (hb : Below w.heap.size w w') => out_any p w' (h.below hb) hf)
  have HC := Lib.hid (fun w' (hb : Below w.heap.size w w') => check_any p w' (h.below hb) hf)
  have HP := Lib.hid (fun w' (hb : Below w.heap.size w w') => checkPlan_any p w' (h.below hb))
  have HF := Lib.hid (fun (hz : checkP p = 0) w' (hb : Below w.heap.size w w') => outOf_any p w' (h.below hb) hz)
  have HL : Hid (outL p = if checkP p = 0 then outP p else []) := Lib.hid rfl
  clear h hf hm
  generalize checkP p = q at HO HC HP HF HL
  generalize outL p = O at HO HL
  generalize outP p = O2 at HF HL
  obtain ⟨kind, mode, low, high, size, limit, vl, vr, vk, vq, grouped, vg, va, left, right, lkeys, rkeys, group, aggs⟩ := p
  simp only at HO HC HP HF ⊢
  have hB := below_alloc w (.cells #[.int .i64 kind, .int .i64 mode, .int .i64 low, .int .i64 high, .int .i64 size, .int .i64 limit, vl, vr, vk, vq, .bool grouped, vg, va] 25)
  have K1 := Blk.new w 25 #[.int .i64 kind, .int .i64 mode, .int .i64 low, .int .i64 high, .int .i64 size, .int .i64 limit, vl, vr, vk, vq, .bool grouped, vg, va]
  have hqq : (q == q) = true := by simp
  go_enter Tryd.func3, Tryd.ntmps3
  go_wp2_with fail
  refine (HO.out _ hB).mono ?_
  rintro e w1 ⟨v1, rfl, hs1, hb1⟩
  have B1 := below_trans hB hb1
  have K2 := K1.below hb1
  have S1 := Lib.hid hs1
  obtain ⟨A, c, rfl, -⟩ := hs1
  obtain ⟨y0, y1, y2, y3, y4, y5, y6, y7, y8, y9, y10, y11, y12⟩ := pl_cells K2
  clear hb1 K1 hB HO
  go_wp2_with fail
  refine (HP.out _ B1).mono ?_
  rintro e w2 ⟨rfl, hb2⟩
  have B2 := below_trans B1 hb2
  have K3 := K2.below hb2
  have S2 := Lib.hid (S1.out.below hb2)
  clear y0 y1 y2 y3 y4 y5 y6 y7 y8 y9 y10 y11 y12 hb2 K2 B1 HP S1
  by_cases hq : q = 0
  · subst hq
    have e := HL.out
    rw [if_pos rfl] at e
    subst e
    clear HL
    go_wp2_with fail
    refine (planBegun_any _ (HM.out.below B2)).mono ?_
    rintro e w3 ⟨rfl, hb3⟩
    have B3 := below_trans B2 hb3
    have K4 := K3.below hb3
    have S3 := Lib.hid (S2.out.below hb3)
    obtain ⟨y0, y1, y2, y3, y4, y5, y6, y7, y8, y9, y10, y11, y12⟩ := pl_cells K4
    clear hb3 K3 B2 S2
    go_wp2_with fail
    refine (HC.out _ B3).mono ?_
    rintro e w4 ⟨rfl, hb4⟩
    have B4 := below_trans B3 hb4
    have K5 := K4.below hb4
    have S4 := Lib.hid (S3.out.below hb4)
    clear y0 y1 y2 y3 y4 y5 y6 y7 y8 y9 y10 y11 y12 hb4 K4 B3 S3
    obtain ⟨y0, y1, y2, y3, y4, y5, y6, y7, y8, y9, y10, y11, y12⟩ := pl_cells K5
    go_wp2_with fail
    refine (HF.out trivial _ B4).mono ?_
    rintro e w5 ⟨v5, rfl, hs5, hb5⟩
    have B5 := below_trans B4 hb5
    have S5 := Lib.hid (S4.out.below hb5)
    have S6 := Lib.hid hs5
    clear y0 y1 y2 y3 y4 y5 y6 y7 y8 y9 y10 y11 y12 hb5 K5 B4 S4 hs5
    go_wp2_with fail
    refine (sameInts_any _ v5 O _ S5.out S6.out).mono ?_
    rintro e w6 ⟨rfl, hb6⟩
    go_wp2
    go_ret
    exact ⟨rfl, below_trans B5 hb6⟩
  · have HL2 := Lib.hid (HL.out.trans (if_neg hq))
    have hb' := bneT hq
    have HLN : Hid (O.length = 0) := Lib.hid (by rw [HL2.out]; rfl)
    have hln : ((O.length : Int) == 0) = true := by rw [HLN.out]; rfl
    clear HL hq HL2 HLN
    go_wp2_with fail
    refine (planBegun_any _ (HM.out.below B2)).mono ?_
    rintro e w3 ⟨rfl, hb3⟩
    have B3 := below_trans B2 hb3
    have K4 := K3.below hb3
    obtain ⟨y0, y1, y2, y3, y4, y5, y6, y7, y8, y9, y10, y11, y12⟩ := pl_cells K4
    clear hb3 K3 B2 S2
    go_wp2_with fail
    refine (HC.out _ B3).mono ?_
    rintro e w4 ⟨rfl, hb4⟩
    have B4 := below_trans B3 hb4
    go_wp2
    go_ret
    exact ⟨rfl, B4⟩

end Go.Proofs.YtelmlagolmabpaaDoor
