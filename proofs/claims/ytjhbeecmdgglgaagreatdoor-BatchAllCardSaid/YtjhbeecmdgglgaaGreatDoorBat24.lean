/-
  Batches: the law BatchAll.
-/
import Derived.Test.YtjhbeecmdgglgaaGreatDoorGrpX37
import Derived.Test.YtjhbeecmdgglgaaGreatDoorBat23
import Derived.Test.YtjhbeecmdgglgaaGreatDoorGrpX43
namespace Go.Proofs.YtjhbeecmdgglgaaGreatDoor
open Go.RowKit

set_option maxHeartbeats 8000000 in
set_option maxRecDepth 10000 in
theorem batchAll_walk (p : Pl) (vL vR : Value) (L R : List Chn) (w : World) (h : p.ok w) (hfit : p.fit) (hL : Chs w vL L) (hcL : FineC L) (hR : Chs w vR R) (hcR : FineC R) (hm : Mx w) :
    Calls Tryz.prog 6 #[.agg #[.int .i64 p.kind, .int .i64 p.mode, .int .i64 p.low, .int .i64 p.high, .int .i64 p.size, .int .i64 p.limit, p.vl, p.vr, p.vk, p.vq, .bool p.grouped, p.vg, p.va], vL, vR] w fun e w' => e = .returned (.bool true) ∧ Below w.heap.size w w' := by
  have hfl := hcL.rows
  have hfr := hcR.rows
  have HM := Lib.hid hm
  have HJ := Lib.hid (fun (W : World) (hb : Below w.heap.size w W) => ball_any p vL vR L R W (h.below hb) hfit (hL.below hb) (hR.below hb) hfl hfr (hm.below hb))
  have HE := Lib.hid (fun (W : World) (hb : Below w.heap.size w W) => batchError_any p vL vR L R W (h.below hb) (hL.below hb) (hR.below hb) hfl hfr)
  have HA := Lib.hid (fun (W : World) (hb : Below w.heap.size w W) (hz : batchE p (ac L) (ac R) = 0) => everything_any p vL vR L R W (h.below hb) hz (hL.below hb) (hR.below hb) hfl hfr)
  have HAE : Hid (batchE p (ac L) (ac R) ≠ 0 → allV p (ac L) (ac R) = []) := Lib.hid fun h => if_neg h
  obtain ⟨AV0, hAV⟩ : ∃ y, allV p (ac L) (ac R) = y := ⟨_, rfl⟩
  rw [hAV] at HJ HA HAE
  clear hAV
  obtain ⟨E, hE⟩ : ∃ y, batchE p (ac L) (ac R) = y := ⟨_, rfl⟩
  rw [hE] at HJ HE HA HAE
  clear hE
  obtain ⟨A0, c0, h0, n0, m0, -⟩ := id h.l
  obtain ⟨A1, c1, h1, n1, m1, -⟩ := id h.r
  obtain ⟨A2, c2, h2, n2, m2, -⟩ := id h.k
  obtain ⟨A3, c3, h3, n3, m3, -⟩ := id h.q
  obtain ⟨A4, c4, h4, n4, m4, -⟩ := id h.g
  obtain ⟨A5, c5, h5, n5, m5, -⟩ := id h.a
  obtain ⟨AL, cL, rfl, -⟩ := id hL.sl
  obtain ⟨AR, cR, rfl, -⟩ := id hR.sl
  rw [h0, h1, h2, h3, h4, h5] at HJ HE HA ⊢
  have HB := Lib.hid (below_alloc w (.cells #[.int .i64 p.kind, .int .i64 p.mode, .int .i64 p.low, .int .i64 p.high, .int .i64 p.size, .int .i64 p.limit, .slice A0 p.left.length c0, .slice A1 p.right.length c1, .slice A2 p.lkeys.length c2, .slice A3 p.rkeys.length c3, .bool p.grouped, .slice A4 p.group.length c4, .slice A5 p.aggs.length c5] 25))
  have HK0 := Lib.hid (Blk.new w 25 #[.int .i64 p.kind, .int .i64 p.mode, .int .i64 p.low, .int .i64 p.high, .int .i64 p.size, .int .i64 p.limit, .slice A0 p.left.length c0, .slice A1 p.right.length c1, .slice A2 p.lkeys.length c2, .slice A3 p.rkeys.length c3, .bool p.grouped, .slice A4 p.group.length c4, .slice A5 p.aggs.length c5])
  obtain ⟨W1, hW1⟩ : ∃ V, w.alloc (.cells #[.int .i64 p.kind, .int .i64 p.mode, .int .i64 p.low, .int .i64 p.high, .int .i64 p.size, .int .i64 p.limit, .slice A0 p.left.length c0, .slice A1 p.right.length c1, .slice A2 p.lkeys.length c2, .slice A3 p.rkeys.length c3, .bool p.grouped, .slice A4 p.group.length c4, .slice A5 p.aggs.length c5] 25) = V := ⟨_, rfl⟩
  rw [hW1] at HB HK0
  have hb1 := HB.out
  obtain ⟨z0, z1, z2, z3, z4, z5, z6, z7, z8, z9, z10, z11, z12⟩ := pl_cells HK0.out
  clear h h0 h1 h2 h3 h4 h5 n0 n1 n2 n3 n4 n5 m0 m1 m2 m3 m4 m5 hL hR hcL hcR hfl hfr hfit hm
  go_enter Tryz.func6, Tryz.ntmps6
  go_wp2_with fail
  refine Calls.mono (by with_reducible exact HJ.out _ hb1) ?_
  rintro e w2 ⟨v2, l2, rfl, hV2, ha2, hb2⟩
  have HV2 := Lib.hid hV2
  have HA2 := Lib.hid ha2
  obtain ⟨Av, cv, rfl, -⟩ := id hV2.sl
  have hy2 := hb2
  have hbw2 := below_trans hb1 hb2
  obtain ⟨z0, z1, z2, z3, z4, z5, z6, z7, z8, z9, z10, z11, z12⟩ := pl_cells (HK0.out.below hy2)
  clear hV2 ha2 hb2 hW1
  go_wp2_with fail
  refine Calls.mono (by with_reducible exact HE.out _ hbw2) ?_
  rintro e w3 ⟨rfl, hb3⟩
  have hy3 := hy2.trans (hb3.mono hy2.size)
  have hbw3 := below_trans hb1 hy3
  have HV3 := Lib.hid (HV2.out.below hb3)
  have HBG := Lib.hid (batchBegun_any w3 (HM.out.below hbw3))
  clear hb3 z0 z1 z2 z3 z4 z5 z6 z7 z8 z9 z10 z11 z12
  by_cases hz : E = 0
  · subst hz
    have HAF := Lib.hid (HA.out)
    have HAV := Lib.hid HA2.out
    clear HA2
    go_wp2_with fail
    refine Calls.mono (by with_reducible exact HBG.out) ?_
    rintro e w4 ⟨rfl, hb4⟩
    have hy4 := hy3.trans (hb4.mono hy3.size)
    have hbw4 := below_trans hb1 hy4
    have HV4 := Lib.hid (HV3.out.below hb4)
    have HJA := Lib.hid (HAF.out w4 hbw4 (by trivial))
    obtain ⟨z0, z1, z2, z3, z4, z5, z6, z7, z8, z9, z10, z11, z12⟩ := pl_cells (HK0.out.below hy4)
    clear hb4
    go_wp2_with fail
    refine Calls.mono (by with_reducible exact HJA.out) ?_
    rintro e w5 ⟨v5, l5, rfl, hV5, ha5, hb5⟩
    have hbw5 := below_trans hbw4 hb5
    have HSV := Lib.hid (sameViews_any _ v5 l2 l5 w5 (HV4.out.below hb5) hV5 (by rw [HAV.out, ha5]))
    clear hV5 ha5 hb5 z0 z1 z2 z3 z4 z5 z6 z7 z8 z9 z10 z11 z12
    go_wp2_with fail
    refine Calls.mono (by with_reducible exact HSV.out) ?_
    rintro e w6 ⟨rfl, hb6⟩
    have HF := Lib.hid (below_trans hbw5 hb6)
    go_wp2
    go_ret
    exact ⟨rfl, HF.out⟩
  · have hq := bneT hz
    have hee : (E == E) = true := beq_self_eq_true _
    have HL0 : Hid (l2.length = 0) := Lib.hid (by have := HA2.out; rw [HAE.out hz] at this; have := congrArg List.length this; unfold av at this; rwa [List.length_map] at this)
    clear hz HA2
    rw [HL0.out]
    go_wp2_with fail
    refine Calls.mono (by with_reducible exact HBG.out) ?_
    rintro e w4 ⟨rfl, hb4⟩
    have HF := Lib.hid (below_trans hbw3 hb4)
    go_wp2
    go_ret
    exact ⟨rfl, HF.out⟩
end Go.Proofs.YtjhbeecmdgglgaaGreatDoor
