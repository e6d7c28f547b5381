/-
  Batches: All and the reference's Everything; the law BatchAll.
-/
import Derived.Test.YtjhbeecmdgglgaaGreatDoorGrpX37
import Derived.Test.YtjhbeecmdgglgaaGreatDoorGrpX40
import Derived.Test.YtjhbeecmdgglgaaGreatDoorBat21
import Derived.Test.YtjhbeecmdgglgaaGreatDoorBatLaw8
namespace Go.Proofs.YtjhbeecmdgglgaaGreatDoor
open Go.RowKit

theorem all_grouped {p : Pl} {L R : List Cg} {l : List Cnt} (h : batchE p L R = 0) (hn : NumsB L R) (hg : p.grouped = true) (ha : av l = viewR (joinL p L R)) : groupE p l = 0 ∧ FineV l ∧ TypedL p l ∧ l.length ≤ 4096 := by
  have hb := batch_zero.1 h
  obtain ⟨h1, h2⟩ := joined_view hb hn
  rw [← ha] at h1 h2
  have hz := group_ok hb.plan hg h1 h2
  have hf := fineV_of h1
  have hl := h1.few
  unfold av at hl
  rw [List.length_map] at hl
  exact ⟨hz, hf, groupE_zero hf hz, hl⟩
set_option maxHeartbeats 8000000 in
set_option maxRecDepth 10000 in
theorem ball_any (p : Pl) (vL vR : Value) (L R : List Chn) (w : World) (h : p.ok w) (hfit : p.fit) (hL : Chs w vL L) (hR : Chs w vR R) (hfl : ∀ x ∈ L, Fine x.r) (hfr : ∀ x ∈ R, Fine x.r) (hm : Mx w) :
    Calls Tryz.prog 22 #[.agg #[.int .i64 p.kind, .int .i64 p.mode, .int .i64 p.low, .int .i64 p.high, .int .i64 p.size, .int .i64 p.limit, p.vl, p.vr, p.vk, p.vq, .bool p.grouped, p.vg, p.va], vL, vR] w fun e w' => ∃ v' l', e = .returned (.tuple #[v', .int .i64 (batchE p (ac L) (ac R))]) ∧ View w' v' l' ∧ av l' = allV p (ac L) (ac R) ∧ Below w.heap.size w w' := by
  have HM := Lib.hid hm
  have HJ := Lib.hid (fun (W : World) (hb : Below w.heap.size w W) => bjoin_any p vL vR L R W (h.below hb) hfit (hL.below hb) (hR.below hb) hfl hfr (hm.below hb))
  have HGA := Lib.hid (fun (hz : batchE p (ac L) (ac R) = 0) (hg : p.grouped = true) (l : List Cnt) (ha : av l = viewR (joinL p (ac L) (ac R))) => all_grouped hz (nums_ac hfl hfr) hg ha)
  have HG := Lib.hid (fun (W : World) (v : Value) (l : List Cnt) (hb : Below w.heap.size w W) (hv : View W v l) (hf : FineV l) => bgroup_any p v l W (h.below hb) hfit hv hf (hm.below hb))
  have HV0 : Hid (allV p (ac L) (ac R) = if batchE p (ac L) (ac R) = 0 then (if p.grouped = true then groupV p (viewR (joinL p (ac L) (ac R))) else viewR (joinL p (ac L) (ac R))) else []) := Lib.hid rfl
  obtain ⟨E, hE⟩ : ∃ y, batchE p (ac L) (ac R) = y := ⟨_, rfl⟩
  rw [hE] at HJ HGA HV0 ⊢
  clear hE
  obtain ⟨J, hJ⟩ : ∃ y, joinL p (ac L) (ac R) = y := ⟨_, rfl⟩
  rw [hJ] at HJ HGA HV0
  clear hJ
  obtain ⟨AV0, hAV⟩ : ∃ y, allV p (ac L) (ac R) = y := ⟨_, rfl⟩
  rw [hAV] at HV0 ⊢
  clear hAV
  obtain ⟨A0, c0, h0, n0, m0, -⟩ := id h.l
  obtain ⟨A1, c1, h1, n1, m1, -⟩ := id h.r
  obtain ⟨A2, c2, h2, n2, m2, -⟩ := id h.k
  obtain ⟨A3, c3, h3, n3, m3, -⟩ := id h.q
  obtain ⟨A4, c4, h4, n4, m4, -⟩ := id h.g
  obtain ⟨A5, c5, h5, n5, m5, -⟩ := id h.a
  obtain ⟨AL, cL, rfl, -⟩ := id hL.sl
  obtain ⟨AR, cR, rfl, -⟩ := id hR.sl
  rw [h0, h1, h2, h3, h4, h5] at HJ HG ⊢
  obtain ⟨G, hG⟩ : ∃ b, p.grouped = b := ⟨_, rfl⟩
  rw [hG] at HJ HGA HG HV0 ⊢
  clear hG
  have HB := Lib.hid (below_alloc w (.cells #[.int .i64 p.kind, .int .i64 p.mode, .int .i64 p.low, .int .i64 p.high, .int .i64 p.size, .int .i64 p.limit, .slice A0 p.left.length c0, .slice A1 p.right.length c1, .slice A2 p.lkeys.length c2, .slice A3 p.rkeys.length c3, .bool G, .slice A4 p.group.length c4, .slice A5 p.aggs.length c5] 25))
  have HK0 := Lib.hid (Blk.new w 25 #[.int .i64 p.kind, .int .i64 p.mode, .int .i64 p.low, .int .i64 p.high, .int .i64 p.size, .int .i64 p.limit, .slice A0 p.left.length c0, .slice A1 p.right.length c1, .slice A2 p.lkeys.length c2, .slice A3 p.rkeys.length c3, .bool G, .slice A4 p.group.length c4, .slice A5 p.aggs.length c5])
  obtain ⟨W1, hW1⟩ : ∃ V, w.alloc (.cells #[.int .i64 p.kind, .int .i64 p.mode, .int .i64 p.low, .int .i64 p.high, .int .i64 p.size, .int .i64 p.limit, .slice A0 p.left.length c0, .slice A1 p.right.length c1, .slice A2 p.lkeys.length c2, .slice A3 p.rkeys.length c3, .bool G, .slice A4 p.group.length c4, .slice A5 p.aggs.length c5] 25) = V := ⟨_, rfl⟩
  rw [hW1] at HB HK0
  have hb1 := HB.out
  obtain ⟨z0, z1, z2, z3, z4, z5, z6, z7, z8, z9, z10, z11, z12⟩ := pl_cells HK0.out
  clear h h0 h1 h2 h3 h4 h5 n0 n1 n2 n3 n4 n5 m0 m1 m2 m3 m4 m5 hL hR hfl hfr hfit hm
  go_enter Tryz.func22, Tryz.ntmps22
  go_wp2_with fail
  refine Calls.mono (by with_reducible exact HJ.out _ hb1) ?_
  rintro e w2 ⟨v2, l2, rfl, hV2, ha2, hb2⟩
  have HV2 := Lib.hid hV2
  have HA2 := Lib.hid ha2
  obtain ⟨Av, cv, rfl, -⟩ := id hV2.sl
  have hy2 := hb2
  have hbw2 := below_trans hb1 hb2
  obtain ⟨z0, z1, z2, z3, z4, z5, z6, z7, z8, z9, z10, z11, z12⟩ := pl_cells (HK0.out.below hy2)
  clear hV2 ha2 hb2 hW1
  by_cases hz : E = 0
  · subst hz
    cases G with
    | true =>
      have HA : Hid (av l2 = viewR J) := Lib.hid (by have := HA2.out; exact this.trans (if_pos (by trivial)))
      have HX := Lib.hid (HGA.out rfl rfl l2 HA.out)
      have HGW := Lib.hid (HG.out w2 _ l2 hbw2 HV2.out HX.out.2.1)
      have HE0 := Lib.hid HX.out.1
      rw [HX.out.1] at HGW
      have HV1 : Hid (AV0 = groupV p (viewR J)) := Lib.hid (by have := HV0.out; exact (this.trans (if_pos (by trivial))).trans (if_pos (by trivial)))
      clear HA2 HG HGA HV0 HX
      go_wp2_with fail
      refine Calls.mono (by with_reducible exact HGW.out) ?_
      rintro e w3 ⟨v3, l3, rfl, hV3, ha3, hb3⟩
      have HV3 := Lib.hid hV3
      have HA3 := Lib.hid ha3
      have HB3 := Lib.hid (below_trans hbw2 hb3)
      clear hV3 ha3 hb3 z0 z1 z2 z3 z4 z5 z6 z7 z8 z9 z10 z11 z12
      go_wp2
      go_ret2
      exact ⟨_, l3, rfl, HV3.out, (HA3.out.trans (if_pos (by trivial))).trans (by rw [HA.out, HV1.out]), HB3.out⟩
    | false =>
      have HB3 := Lib.hid hbw2
      have HV1 : Hid (AV0 = viewR J) := Lib.hid (by have := HV0.out; exact (this.trans (if_pos (by trivial))).trans (if_neg (by decide)))
      go_wp2
      go_ret2
      exact ⟨_, l2, rfl, HV2.out, (HA2.out.trans (if_pos (by trivial))).trans HV1.out.symm, HB3.out⟩
  · have hq := bneT hz
    have hq2 : (E == 0) = false := beq_false_of_ne hz
    have HZ := Lib.hid hz
    have HB3 := Lib.hid hbw2
    clear hz
    go_wp2
    go_ret2
    exact ⟨_, l2, rfl, HV2.out, by rw [HA2.out, if_neg HZ.out, HV0.out, if_neg HZ.out], HB3.out⟩
set_option maxHeartbeats 8000000 in
set_option maxRecDepth 10000 in
theorem everything_any (p : Pl) (vL vR : Value) (L R : List Chn) (w : World) (h : p.ok w) (hz : batchE p (ac L) (ac R) = 0) (hL : Chs w vL L) (hR : Chs w vR R) (hfl : ∀ x ∈ L, Fine x.r) (hfr : ∀ x ∈ R, Fine x.r) :
    Calls Tryz.prog 23 #[.agg #[.int .i64 p.kind, .int .i64 p.mode, .int .i64 p.low, .int .i64 p.high, .int .i64 p.size, .int .i64 p.limit, p.vl, p.vr, p.vk, p.vq, .bool p.grouped, p.vg, p.va], vL, vR] w fun e w' => ∃ v' l', e = .returned v' ∧ View w' v' l' ∧ av l' = allV p (ac L) (ac R) ∧ Below w.heap.size w w' := by
  have HJ := Lib.hid (fun (W : World) (hb : Below w.heap.size w W) => joinAll_any p vL vR L R W (h.below hb) (batch_zero.1 hz) (hL.below hb) (hR.below hb) hfl hfr)
  have HGA := Lib.hid (fun (hg : p.grouped = true) (l : List Cnt) (ha : av l = viewR (joinL p (ac L) (ac R))) => all_grouped hz (nums_ac hfl hfr) hg ha)
  have HG := Lib.hid (fun (W : World) (v : Value) (l : List Cnt) (hb : Below w.heap.size w W) (hv : View W v l) (hT : TypedL p l) (hl : l.length ≤ 4096) => groupAll_any p v l W (h.below hb) hT hv hl)
  have HV0 : Hid (allV p (ac L) (ac R) = (if p.grouped = true then groupV p (viewR (joinL p (ac L) (ac R))) else viewR (joinL p (ac L) (ac R)))) := Lib.hid (if_pos hz)
  obtain ⟨J, hJ⟩ : ∃ y, joinL p (ac L) (ac R) = y := ⟨_, rfl⟩
  rw [hJ] at HJ HGA HV0
  clear hJ
  obtain ⟨AV0, hAV⟩ : ∃ y, allV p (ac L) (ac R) = y := ⟨_, rfl⟩
  rw [hAV] at HV0 ⊢
  clear hAV
  obtain ⟨A0, c0, h0, n0, m0, -⟩ := id h.l
  obtain ⟨A1, c1, h1, n1, m1, -⟩ := id h.r
  obtain ⟨A2, c2, h2, n2, m2, -⟩ := id h.k
  obtain ⟨A3, c3, h3, n3, m3, -⟩ := id h.q
  obtain ⟨A4, c4, h4, n4, m4, -⟩ := id h.g
  obtain ⟨A5, c5, h5, n5, m5, -⟩ := id h.a
  obtain ⟨AL, cL, rfl, -⟩ := id hL.sl
  obtain ⟨AR, cR, rfl, -⟩ := id hR.sl
  rw [h0, h1, h2, h3, h4, h5] at HJ HG ⊢
  obtain ⟨G, hG⟩ : ∃ b, p.grouped = b := ⟨_, rfl⟩
  rw [hG] at HJ HGA HG HV0 ⊢
  clear hG
  have HB := Lib.hid (below_alloc w (.cells #[.int .i64 p.kind, .int .i64 p.mode, .int .i64 p.low, .int .i64 p.high, .int .i64 p.size, .int .i64 p.limit, .slice A0 p.left.length c0, .slice A1 p.right.length c1, .slice A2 p.lkeys.length c2, .slice A3 p.rkeys.length c3, .bool G, .slice A4 p.group.length c4, .slice A5 p.aggs.length c5] 25))
  have HK0 := Lib.hid (Blk.new w 25 #[.int .i64 p.kind, .int .i64 p.mode, .int .i64 p.low, .int .i64 p.high, .int .i64 p.size, .int .i64 p.limit, .slice A0 p.left.length c0, .slice A1 p.right.length c1, .slice A2 p.lkeys.length c2, .slice A3 p.rkeys.length c3, .bool G, .slice A4 p.group.length c4, .slice A5 p.aggs.length c5])
  obtain ⟨W1, hW1⟩ : ∃ V, w.alloc (.cells #[.int .i64 p.kind, .int .i64 p.mode, .int .i64 p.low, .int .i64 p.high, .int .i64 p.size, .int .i64 p.limit, .slice A0 p.left.length c0, .slice A1 p.right.length c1, .slice A2 p.lkeys.length c2, .slice A3 p.rkeys.length c3, .bool G, .slice A4 p.group.length c4, .slice A5 p.aggs.length c5] 25) = V := ⟨_, rfl⟩
  rw [hW1] at HB HK0
  have hb1 := HB.out
  obtain ⟨z0, z1, z2, z3, z4, z5, z6, z7, z8, z9, z10, z11, z12⟩ := pl_cells HK0.out
  clear h h0 h1 h2 h3 h4 h5 n0 n1 n2 n3 n4 n5 m0 m1 m2 m3 m4 m5 hL hR hfl hfr hz
  go_enter Tryz.func23, Tryz.ntmps23
  go_wp2_with fail
  refine Calls.mono (by with_reducible exact HJ.out _ hb1) ?_
  rintro e w2 ⟨v2, l2, rfl, hV2, ha2, hb2⟩
  have HV2 := Lib.hid hV2
  have HA2 := Lib.hid ha2
  obtain ⟨Av, cv, rfl, -⟩ := id hV2.sl
  have hy2 := hb2
  have hbw2 := below_trans hb1 hb2
  obtain ⟨z0, z1, z2, z3, z4, z5, z6, z7, z8, z9, z10, z11, z12⟩ := pl_cells (HK0.out.below hy2)
  clear hV2 ha2 hb2 hW1
  cases G with
  | true =>
    have HX := Lib.hid (HGA.out rfl l2 HA2.out)
    have HGW := Lib.hid (HG.out w2 _ l2 hbw2 HV2.out HX.out.2.2.1 HX.out.2.2.2)
    have HV1 : Hid (AV0 = groupV p (viewR J)) := Lib.hid (by have := HV0.out; exact this.trans (if_pos (by trivial)))
    clear HG HGA HV0 HX
    go_wp2_with fail
    refine Calls.mono (by with_reducible exact HGW.out) ?_
    rintro e w3 ⟨v3, l3, rfl, hV3, ha3, hb3⟩
    have HV3 := Lib.hid hV3
    have HA3 := Lib.hid ha3
    have HB3 := Lib.hid (below_trans hbw2 hb3)
    clear hV3 ha3 hb3 z0 z1 z2 z3 z4 z5 z6 z7 z8 z9 z10 z11 z12
    obtain ⟨Av3, cv3, rfl, -⟩ := id HV3.out.sl
    go_wp2
    go_ret
    exact ⟨_, l3, rfl, HV3.out, by rw [HA3.out, HA2.out, HV1.out], HB3.out⟩
  | false =>
    have HB3 := Lib.hid hbw2
    have HV1 : Hid (AV0 = viewR J) := Lib.hid (by have := HV0.out; exact this.trans (if_neg (by decide)))
    go_wp2
    go_ret
    exact ⟨_, l2, rfl, HV2.out, by rw [HA2.out, HV1.out], HB3.out⟩
end Go.Proofs.YtjhbeecmdgglgaaGreatDoor
