/-
  Batches: the law BatchGroups.
-/
import Derived.Test.YtjhbeecmdgglgaaGreatDoorGrpX37
import Derived.Test.YtjhbeecmdgglgaaGreatDoorGrpX41
import Derived.Test.YtjhbeecmdgglgaaGreatDoorBat21
import Derived.Test.YtjhbeecmdgglgaaGreatDoorGrpX12
import Derived.Test.YtjhbeecmdgglgaaGreatDoorGrpX43
namespace Go.Proofs.YtjhbeecmdgglgaaGreatDoor
open Go.RowKit

theorem groupE_len {p : Pl} {l : List Cnt} (h : groupE p l = 0) : l.length ≤ 4096 := by
  unfold groupE at h
  by_cases h1 : checkP p = 0
  · rw [if_neg (fun e => e h1)] at h
    by_cases h2 : p.grouped = false
    · rw [if_pos h2] at h; omega
    · rw [if_neg h2] at h
      by_cases h3 : chkV l = 0
      · unfold chkV at h3
        by_cases h4 : 4096 < l.length
        · rw [if_pos h4] at h3; omega
        · omega
      · rw [if_pos h3] at h; exact absurd h h3
  · rw [if_pos h1] at h; exact absurd h h1
set_option maxHeartbeats 8000000 in
set_option maxRecDepth 10000 in
theorem batchGroups_walk (p : Pl) (v : Value) (l : List Cnt) (w : World) (h : p.ok w) (hfit : p.fit) (hV : View w v l) (hfv : FineV l) (hm : Mx w) :
    Calls Tryz.prog 4 #[.agg #[.int .i64 p.kind, .int .i64 p.mode, .int .i64 p.low, .int .i64 p.high, .int .i64 p.size, .int .i64 p.limit, p.vl, p.vr, p.vk, p.vq, .bool p.grouped, p.vg, p.va], v] w fun e w' => e = .returned (.bool true) ∧ Below w.heap.size w w' := by
  have HM := Lib.hid hm
  have HG := Lib.hid (fun (W : World) (hb : Below w.heap.size w W) => bgroup_any p v l W (h.below hb) hfit (hV.below hb) hfv (hm.below hb))
  have HC := Lib.hid (fun (W : World) (hb : Below w.heap.size w W) => checkPlan_any p W (h.below hb))
  have HE := Lib.hid (fun (W : World) (hb : Below w.heap.size w W) (hz : checkP p = 0) => groupError_any p v l W (h.below hb) hz (hV.below hb) hfv)
  have HA := Lib.hid (fun (W : World) (hb : Below w.heap.size w W) (hz : groupE p l = 0) => groupAll_any p v l W (h.below hb) (groupE_zero hfv hz) (hV.below hb) (groupE_len hz))
  have HCE : Hid (checkP p ≠ 0 → checkP p = groupE p l) := Lib.hid fun h => by unfold groupE; rw [if_pos h]
  obtain ⟨E, hE⟩ : ∃ y, groupE p l = y := ⟨_, rfl⟩
  rw [hE] at HG HE HA HCE
  clear hE
  obtain ⟨C, hC⟩ : ∃ y, checkP p = y := ⟨_, rfl⟩
  rw [hC] at HC HE HCE
  clear hC
  obtain ⟨A0, c0, h0, n0, m0, -⟩ := id h.l
  obtain ⟨A1, c1, h1, n1, m1, -⟩ := id h.r
  obtain ⟨A2, c2, h2, n2, m2, -⟩ := id h.k
  obtain ⟨A3, c3, h3, n3, m3, -⟩ := id h.q
  obtain ⟨A4, c4, h4, n4, m4, -⟩ := id h.g
  obtain ⟨A5, c5, h5, n5, m5, -⟩ := id h.a
  obtain ⟨AL, cL, rfl, -⟩ := id hV.sl
  rw [h0, h1, h2, h3, h4, h5] at HG HC HE HA ⊢
  have HB := Lib.hid (below_alloc w (.cells #[.int .i64 p.kind, .int .i64 p.mode, .int .i64 p.low, .int .i64 p.high, .int .i64 p.size, .int .i64 p.limit, .slice A0 p.left.length c0, .slice A1 p.right.length c1, .slice A2 p.lkeys.length c2, .slice A3 p.rkeys.length c3, .bool p.grouped, .slice A4 p.group.length c4, .slice A5 p.aggs.length c5] 25))
  have HK0 := Lib.hid (Blk.new w 25 #[.int .i64 p.kind, .int .i64 p.mode, .int .i64 p.low, .int .i64 p.high, .int .i64 p.size, .int .i64 p.limit, .slice A0 p.left.length c0, .slice A1 p.right.length c1, .slice A2 p.lkeys.length c2, .slice A3 p.rkeys.length c3, .bool p.grouped, .slice A4 p.group.length c4, .slice A5 p.aggs.length c5])
  obtain ⟨W1, hW1⟩ : ∃ V, w.alloc (.cells #[.int .i64 p.kind, .int .i64 p.mode, .int .i64 p.low, .int .i64 p.high, .int .i64 p.size, .int .i64 p.limit, .slice A0 p.left.length c0, .slice A1 p.right.length c1, .slice A2 p.lkeys.length c2, .slice A3 p.rkeys.length c3, .bool p.grouped, .slice A4 p.group.length c4, .slice A5 p.aggs.length c5] 25) = V := ⟨_, rfl⟩
  rw [hW1] at HB HK0
  have hb1 := HB.out
  obtain ⟨z0, z1, z2, z3, z4, z5, z6, z7, z8, z9, z10, z11, z12⟩ := pl_cells HK0.out
  clear h h0 h1 h2 h3 h4 h5 n0 n1 n2 n3 n4 n5 m0 m1 m2 m3 m4 m5 hV hfv hfit hm
  go_enter Tryz.func4, Tryz.ntmps4
  go_wp2_with fail
  refine Calls.mono (by with_reducible exact HG.out _ hb1) ?_
  rintro e w2 ⟨v2, l2, rfl, hV2, ha2, hb2⟩
  have HV2 := Lib.hid hV2
  have HA2 := Lib.hid ha2
  obtain ⟨Av, cv, rfl, -⟩ := id hV2.sl
  have hy2 := hb2
  have hbw2 := below_trans hb1 hb2
  obtain ⟨z0, z1, z2, z3, z4, z5, z6, z7, z8, z9, z10, z11, z12⟩ := pl_cells (HK0.out.below hy2)
  clear hV2 ha2 hb2 hW1
  go_wp2_with fail
  refine Calls.mono (by with_reducible exact HC.out _ hbw2) ?_
  rintro e w3 ⟨rfl, hb3⟩
  have hy3 := hy2.trans (hb3.mono hy2.size)
  have hbw3 := below_trans hb1 hy3
  have HV3 := Lib.hid (HV2.out.below hb3)
  clear hb3 z0 z1 z2 z3 z4 z5 z6 z7 z8 z9 z10 z11 z12
  by_cases hc : C = 0
  · subst hc
    have HEF := Lib.hid (HE.out _ hbw3 (by trivial))
    obtain ⟨z0, z1, z2, z3, z4, z5, z6, z7, z8, z9, z10, z11, z12⟩ := pl_cells (HK0.out.below hy3)
    go_wp2_with fail
    refine Calls.mono (by with_reducible exact HEF.out) ?_
    rintro e w4 ⟨rfl, hb4⟩
    have hy4 := hy3.trans (hb4.mono hy3.size)
    have hbw4 := below_trans hb1 hy4
    have HV4 := Lib.hid (HV3.out.below hb4)
    have HBG := Lib.hid (batchBegun_any w4 (HM.out.below hbw4))
    clear hb4 z0 z1 z2 z3 z4 z5 z6 z7 z8 z9 z10 z11 z12
    by_cases hz : E = 0
    · subst hz
      have HAF := Lib.hid (HA.out)
      have HAV : Hid (av l2 = groupV p (av l)) := Lib.hid (by have := HA2.out; rwa [if_pos rfl] at this)
      clear HA2
      go_wp2_with fail
      refine Calls.mono (by with_reducible exact HBG.out) ?_
      rintro e w5 ⟨rfl, hb5⟩
      have hy5 := hy4.trans (hb5.mono hy4.size)
      have hbw5 := below_trans hb1 hy5
      have HV5 := Lib.hid (HV4.out.below hb5)
      have HJA := Lib.hid (HAF.out w5 hbw5 (by trivial))
      obtain ⟨z0, z1, z2, z3, z4, z5, z6, z7, z8, z9, z10, z11, z12⟩ := pl_cells (HK0.out.below hy5)
      clear hb5
      go_wp2_with fail
      refine Calls.mono (by with_reducible exact HJA.out) ?_
      rintro e w6 ⟨v6, l6, rfl, hV6, ha6, hb6⟩
      have hbw6 := below_trans hbw5 hb6
      have HSV := Lib.hid (sameViews_any _ v6 l2 l6 w6 (HV5.out.below hb6) hV6 (by rw [HAV.out, ha6]))
      clear hV6 ha6 hb6 z0 z1 z2 z3 z4 z5 z6 z7 z8 z9 z10 z11 z12
      go_wp2_with fail
      refine Calls.mono (by with_reducible exact HSV.out) ?_
      rintro e w7 ⟨rfl, hb7⟩
      have HF := Lib.hid (below_trans hbw6 hb7)
      go_wp2
      go_ret
      exact ⟨rfl, HF.out⟩
    ·
      have hq := bneT hz
      have hee : (E == E) = true := beq_self_eq_true _
      have HL0 : Hid (l2.length = 0) := Lib.hid (by have := HA2.out; rw [if_neg hz] at this; have := congrArg List.length this; unfold av at this; rwa [List.length_map] at this)
      clear hz HA2
      rw [HL0.out]
      go_wp2_with fail
      refine Calls.mono (by with_reducible exact HBG.out) ?_
      rintro e w5 ⟨rfl, hb5⟩
      have HF := Lib.hid (below_trans hbw4 hb5)
      go_wp2
      go_ret
      exact ⟨rfl, HF.out⟩
  · have hEC := HCE.out hc
    subst hEC
    have hz := hc
    have hq2 : (C == 0) = false := beq_false_of_ne hc
    have HBG := Lib.hid (batchBegun_any w3 (HM.out.below hbw3))
    have hq := bneT hz
    have hee : (C == C) = true := beq_self_eq_true _
    have HL0 : Hid (l2.length = 0) := Lib.hid (by have := HA2.out; rw [if_neg hz] at this; have := congrArg List.length this; unfold av at this; rwa [List.length_map] at this)
    clear hz HA2
    rw [HL0.out]
    go_wp2_with fail
    refine Calls.mono (by with_reducible exact HBG.out) ?_
    rintro e w4 ⟨rfl, hb4⟩
    have HF := Lib.hid (below_trans hbw3 hb4)
    go_wp2
    go_ret
    exact ⟨rfl, HF.out⟩
end Go.Proofs.YtjhbeecmdgglgaaGreatDoor
