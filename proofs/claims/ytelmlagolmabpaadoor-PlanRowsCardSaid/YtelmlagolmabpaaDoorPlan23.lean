/-
  Plans: the laws PlanRows, PlanGone.
-/
import Derived.Test.YtelmlagolmabpaaDoorPlan22
namespace Go.Proofs.YtelmlagolmabpaaDoor
open Go.RowKit Go.Maps
open tm (fitsB fits_any rfits_any)

set_option maxHeartbeats 8000000 in
set_option maxRecDepth 10000 in
theorem planRows_walk (p : Pl) (side : Int) (v : Value) (r : List Val) (w : World) (h : p.ok w) (hf : p.fit) (hr : Sl w v r.length (rowCells r)) (hfr : Fine r) (hm : Mx w) :
    Calls Tryd.prog 4 #[.agg #[.int .i64 p.kind, .int .i64 p.mode, .int .i64 p.low, .int .i64 p.high, .int .i64 p.size, .int .i64 p.limit, p.vl, p.vr, p.vk, p.vq, .bool p.grouped, p.vg, p.va], .int .i64 side, v] w fun e w' => e = .returned (.bool true) ∧ Below w.heap.size w w' := by
  have HM := Lib.hid hm
  have HKO := Lib.hid (fun w' (hb : Below w.heap.size w w') => keyOf_any p side v r w' (h.below hb) hf (hr.below hb) hfr (hm.below hb))
  have HP := Lib.hid (fun w' (hb : Below w.heap.size w w') => checkPlan_any p w' (h.below hb))
  have HRO := Lib.hid (fun w' (hb : Below w.heap.size w w') => row_any p side v r w' (h.below hb) hf (hr.below hb) hfr.small)
  have HRE := Lib.hid (fun (hs : p.short) w' (hb : Below w.heap.size w w') => rowError_any p side v r w' (h.below hb) hs (hr.below hb) hfr.small)
  have HKF := Lib.hid (fun (hrow : RowFine p side r) w' (hb : Below w.heap.size w w') => keyFor_any p side v r w' (h.below hb) (hr.below hb) hfr hrow)
  have HQ : Hid (rowR p side r = if checkP p = 0 then rowE p side r else checkP p) := Lib.hid rfl
  have HK : Hid (keyOfR p side r = if rowR p side r = 0 then keyFor p side r else (⟨#[]⟩, false)) := Lib.hid rfl
  have HSH := Lib.hid (fun hz : checkP p = 0 => counts_short (check_ok hz).2.2.1)
  have HFI := Lib.hid (fun (hz : rowR p side r = 0) => rowR_fine hz)
  clear h hf hr hfr hm
  generalize keyOfR p side r = KO at HKO HK
  generalize keyFor p side r = KF at HKF HK
  generalize rowR p side r = R at HKO HRO HQ HK HFI
  generalize rowE p side r = RE at HRE HQ
  generalize checkP p = q at HP HQ HSH
  obtain ⟨ks, kb⟩ := KO
  obtain ⟨fs, fb⟩ := KF
  generalize hpp : RowFine p side r = RF at HKF HFI
  generalize hps : p.short = PS at HRE HSH
  clear hpp hps
  obtain ⟨kind, mode, low, high, size, limit, vl, vr, vk, vq, grouped, vg, va, left, right, lkeys, rkeys, group, aggs⟩ := p
  simp only at HKO HP HRO HRE HKF ⊢
  have B0 := below_alloc w (.cells #[.int .i64 kind, .int .i64 mode, .int .i64 low, .int .i64 high, .int .i64 size, .int .i64 limit, vl, vr, vk, vq, .bool grouped, vg, va] 25)
  have K0 := Blk.new w 25 #[.int .i64 kind, .int .i64 mode, .int .i64 low, .int .i64 high, .int .i64 size, .int .i64 limit, vl, vr, vk, vq, .bool grouped, vg, va]
  obtain ⟨y0, y1, y2, y3, y4, y5, y6, y7, y8, y9, y10, y11, y12⟩ := pl_cells K0
  by_cases hq : q = 0
  · subst hq
    obtain rfl : R = RE := HQ.out.trans (if_pos rfl)
    have HPS := Lib.hid (HSH.out rfl)
    clear HQ HSH
    by_cases hz : R = 0
    · subst hz
      have hk : (ks, kb) = (fs, fb) := HK.out.trans (if_pos rfl)
      injection hk with e1 e2
      subst e1 e2
      have HRF := Lib.hid (HFI.out rfl)
      clear HK HFI
      go_enter Tryd.func4, Tryd.ntmps4
      go_wp2_with fail
      refine (HKO.out _ B0).mono ?_
      rintro e w1 ⟨rfl, hb⟩
      have B1 := below_trans B0 hb
      have K1 := K0.below hb
      clear y0 y1 y2 y3 y4 y5 y6 y7 y8 y9 y10 y11 y12
      obtain ⟨y0, y1, y2, y3, y4, y5, y6, y7, y8, y9, y10, y11, y12⟩ := pl_cells K1
      clear hb K0 B0
      go_wp2_with fail
      refine (HP.out _ B1).mono ?_
      rintro e w2 ⟨rfl, hb⟩
      have B2 := below_trans B1 hb
      have K2 := K1.below hb
      clear y0 y1 y2 y3 y4 y5 y6 y7 y8 y9 y10 y11 y12
      obtain ⟨y0, y1, y2, y3, y4, y5, y6, y7, y8, y9, y10, y11, y12⟩ := pl_cells K2
      clear hb K1 B1
      go_wp2_with fail
      refine (HRE.out HPS.out _ B2).mono ?_
      rintro e w3 ⟨rfl, hb⟩
      have B3 := below_trans B2 hb
      have K3 := K2.below hb
      clear y0 y1 y2 y3 y4 y5 y6 y7 y8 y9 y10 y11 y12
      obtain ⟨y0, y1, y2, y3, y4, y5, y6, y7, y8, y9, y10, y11, y12⟩ := pl_cells K3
      clear hb K2 B2
      go_wp2_with fail
      refine (HKF.out HRF.out _ B3).mono ?_
      rintro e w4 ⟨rfl, hb⟩
      have B4 := below_trans B3 hb
      have K4 := K3.below hb
      clear y0 y1 y2 y3 y4 y5 y6 y7 y8 y9 y10 y11 y12
      obtain ⟨y0, y1, y2, y3, y4, y5, y6, y7, y8, y9, y10, y11, y12⟩ := pl_cells K4
      clear hb K3 B3
      go_wp2_with fail
      refine (planBegun_any _ (HM.out.below B4)).mono ?_
      rintro e w5 ⟨rfl, hb⟩
      have B5 := below_trans B4 hb
      have K5 := K4.below hb
      clear y0 y1 y2 y3 y4 y5 y6 y7 y8 y9 y10 y11 y12
      obtain ⟨y0, y1, y2, y3, y4, y5, y6, y7, y8, y9, y10, y11, y12⟩ := pl_cells K5
      clear hb K4 B4
      go_wp2_with fail
      refine (HRO.out _ B5).mono ?_
      rintro e w6 ⟨rfl, hb⟩
      have B6 := below_trans B5 hb
      have K6 := K5.below hb
      clear y0 y1 y2 y3 y4 y5 y6 y7 y8 y9 y10 y11 y12
      obtain ⟨y0, y1, y2, y3, y4, y5, y6, y7, y8, y9, y10, y11, y12⟩ := pl_cells K6
      clear hb K5 B5
      go_wp2
      go_ret
      exact ⟨rfl, B6⟩
    · have hk : (ks, kb) = (⟨#[]⟩, false) := HK.out.trans (if_neg hz)
      injection hk with e1 e2
      subst e1 e2
      have hz' := bneT hz
      have hzz : (R == R) = true := by simp
      clear HK HFI HKF hz
      go_enter Tryd.func4, Tryd.ntmps4
      go_wp2_with fail
      refine (HKO.out _ B0).mono ?_
      rintro e w1 ⟨rfl, hb⟩
      have B1 := below_trans B0 hb
      have K1 := K0.below hb
      clear y0 y1 y2 y3 y4 y5 y6 y7 y8 y9 y10 y11 y12
      obtain ⟨y0, y1, y2, y3, y4, y5, y6, y7, y8, y9, y10, y11, y12⟩ := pl_cells K1
      clear hb K0 B0
      go_wp2_with fail
      refine (HP.out _ B1).mono ?_
      rintro e w2 ⟨rfl, hb⟩
      have B2 := below_trans B1 hb
      have K2 := K1.below hb
      clear y0 y1 y2 y3 y4 y5 y6 y7 y8 y9 y10 y11 y12
      obtain ⟨y0, y1, y2, y3, y4, y5, y6, y7, y8, y9, y10, y11, y12⟩ := pl_cells K2
      clear hb K1 B1
      go_wp2_with fail
      refine (HRE.out HPS.out _ B2).mono ?_
      rintro e w3 ⟨rfl, hb⟩
      have B3 := below_trans B2 hb
      have K3 := K2.below hb
      clear y0 y1 y2 y3 y4 y5 y6 y7 y8 y9 y10 y11 y12
      obtain ⟨y0, y1, y2, y3, y4, y5, y6, y7, y8, y9, y10, y11, y12⟩ := pl_cells K3
      clear hb K2 B2
      go_wp2_with fail
      refine (planBegun_any _ (HM.out.below B3)).mono ?_
      rintro e w4 ⟨rfl, hb⟩
      have B4 := below_trans B3 hb
      have K4 := K3.below hb
      clear y0 y1 y2 y3 y4 y5 y6 y7 y8 y9 y10 y11 y12
      obtain ⟨y0, y1, y2, y3, y4, y5, y6, y7, y8, y9, y10, y11, y12⟩ := pl_cells K4
      clear hb K3 B3
      go_wp2_with fail
      refine (HRO.out _ B4).mono ?_
      rintro e w5 ⟨rfl, hb⟩
      have B5 := below_trans B4 hb
      have K5 := K4.below hb
      clear y0 y1 y2 y3 y4 y5 y6 y7 y8 y9 y10 y11 y12
      obtain ⟨y0, y1, y2, y3, y4, y5, y6, y7, y8, y9, y10, y11, y12⟩ := pl_cells K5
      clear hb K4 B4
      go_wp2
      go_ret
      exact ⟨rfl, B5⟩
  · obtain rfl : R = q := HQ.out.trans (if_neg hq)
    have hk : (ks, kb) = (⟨#[]⟩, false) := HK.out.trans (if_neg hq)
    injection hk with e1 e2
    subst e1 e2
    have hz' := bneT hq
    have hz0 := beqF hq
    have hzz : (R == R) = true := by simp
    clear HK HFI HKF HQ HSH HRE hq
    go_enter Tryd.func4, Tryd.ntmps4
    go_wp2_with fail
    refine (HKO.out _ B0).mono ?_
    rintro e w1 ⟨rfl, hb⟩
    have B1 := below_trans B0 hb
    have K1 := K0.below hb
    clear y0 y1 y2 y3 y4 y5 y6 y7 y8 y9 y10 y11 y12
    obtain ⟨y0, y1, y2, y3, y4, y5, y6, y7, y8, y9, y10, y11, y12⟩ := pl_cells K1
    clear hb K0 B0
    go_wp2_with fail
    refine (HP.out _ B1).mono ?_
    rintro e w2 ⟨rfl, hb⟩
    have B2 := below_trans B1 hb
    have K2 := K1.below hb
    clear y0 y1 y2 y3 y4 y5 y6 y7 y8 y9 y10 y11 y12
    obtain ⟨y0, y1, y2, y3, y4, y5, y6, y7, y8, y9, y10, y11, y12⟩ := pl_cells K2
    clear hb K1 B1
    go_wp2_with fail
    refine (planBegun_any _ (HM.out.below B2)).mono ?_
    rintro e w3 ⟨rfl, hb⟩
    have B3 := below_trans B2 hb
    have K3 := K2.below hb
    clear y0 y1 y2 y3 y4 y5 y6 y7 y8 y9 y10 y11 y12
    obtain ⟨y0, y1, y2, y3, y4, y5, y6, y7, y8, y9, y10, y11, y12⟩ := pl_cells K3
    clear hb K2 B2
    go_wp2_with fail
    refine (HRO.out _ B3).mono ?_
    rintro e w4 ⟨rfl, hb⟩
    have B4 := below_trans B3 hb
    have K4 := K3.below hb
    clear y0 y1 y2 y3 y4 y5 y6 y7 y8 y9 y10 y11 y12
    obtain ⟨y0, y1, y2, y3, y4, y5, y6, y7, y8, y9, y10, y11, y12⟩ := pl_cells K4
    clear hb K3 B3
    go_wp2
    go_ret
    exact ⟨rfl, B4⟩

set_option maxHeartbeats 8000000 in
set_option maxRecDepth 10000 in
theorem planGone_walk (p : Pl) (side mark : Int) (w : World) (h : p.ok w) (hf : p.fit) (hm : Mx w) :
    Calls Tryd.prog 5 #[.agg #[.int .i64 p.kind, .int .i64 p.mode, .int .i64 p.low, .int .i64 p.high, .int .i64 p.size, .int .i64 p.limit, p.vl, p.vr, p.vk, p.vq, .bool p.grouped, p.vg, p.va], .int .i64 side, .int .i64 mark] w fun e w' => e = .returned (.bool true) ∧ Below w.heap.size w w' := by
  have HM := Lib.hid hm
  have HG := Lib.hid (fun w' (hb : Below w.heap.size w w') => gone_any p side mark w' (h.below hb) hf)
  have HP := Lib.hid (fun w' (hb : Below w.heap.size w w') => checkPlan_any p w' (h.below hb))
  have HA := Lib.hid (fun (hz : checkP p = 0) (hsd : side = 1 ∨ side = 2) (hmk : fitsB mark = true) w' => goneAt_any p side mark w' hz hsd hmk)
  have HQ : Hid (goneR p side mark = if checkP p = 0 then if side = 1 ∨ side = 2 then if fitsB mark = true then (goneF p side mark, 0) else (0, 3) else (0, 4) else (0, checkP p)) := Lib.hid rfl
  clear h hf hm
  generalize goneR p side mark = G at HG HQ
  generalize goneF p side mark = F at HA HQ
  generalize checkP p = q at HP HQ HA
  obtain ⟨g1, g2⟩ := G
  obtain ⟨kind, mode, low, high, size, limit, vl, vr, vk, vq, grouped, vg, va, left, right, lkeys, rkeys, group, aggs⟩ := p
  simp only at HG HP HA ⊢
  have B0 := below_alloc w (.cells #[.int .i64 kind, .int .i64 mode, .int .i64 low, .int .i64 high, .int .i64 size, .int .i64 limit, vl, vr, vk, vq, .bool grouped, vg, va] 25)
  have K0 := Blk.new w 25 #[.int .i64 kind, .int .i64 mode, .int .i64 low, .int .i64 high, .int .i64 size, .int .i64 limit, vl, vr, vk, vq, .bool grouped, vg, va]
  obtain ⟨y0, y1, y2, y3, y4, y5, y6, y7, y8, y9, y10, y11, y12⟩ := pl_cells K0
  by_cases hq : q = 0
  · subst hq
    have HQ2 := Lib.hid (HQ.out.trans (if_pos rfl))
    clear HQ
    by_cases hsd : side = 1 ∨ side = 2
    · have HQ3 := Lib.hid (HQ2.out.trans (if_pos hsd))
      clear HQ2
      cases hmk : fitsB mark
      · have e := HQ3.out
        rw [if_neg (by rw [hmk]; decide)] at e
        injection e with e1 e2
        subst e1 e2
        have HMK := Lib.hid hmk
        clear HQ3 HA hmk
        rcases hsd with rfl | rfl
        all_goals
          go_enter Tryd.func5, Tryd.ntmps5
          go_wp2_with fail
          refine (HG.out _ B0).mono ?_
          rintro e w1 ⟨rfl, hb⟩
          have B1 := below_trans B0 hb
          have K1 := K0.below hb
          clear y0 y1 y2 y3 y4 y5 y6 y7 y8 y9 y10 y11 y12
          obtain ⟨y0, y1, y2, y3, y4, y5, y6, y7, y8, y9, y10, y11, y12⟩ := pl_cells K1
          clear hb K0 B0
          go_wp2_with fail
          refine (HP.out _ B1).mono ?_
          rintro e w2 ⟨rfl, hb⟩
          have B2 := below_trans B1 hb
          have K2 := K1.below hb
          clear y0 y1 y2 y3 y4 y5 y6 y7 y8 y9 y10 y11 y12
          obtain ⟨y0, y1, y2, y3, y4, y5, y6, y7, y8, y9, y10, y11, y12⟩ := pl_cells K2
          clear hb K1 B1
          go_wp2_with fail
          refine (rfits_any _ _).mono ?_
          rw [HMK.out]
          rintro e w' ⟨rfl, rfl⟩
          go_wp2_with fail
          refine (planBegun_any _ (HM.out.below B2)).mono ?_
          rintro e w3 ⟨rfl, hb⟩
          have B3 := below_trans B2 hb
          have K3 := K2.below hb
          clear y0 y1 y2 y3 y4 y5 y6 y7 y8 y9 y10 y11 y12
          obtain ⟨y0, y1, y2, y3, y4, y5, y6, y7, y8, y9, y10, y11, y12⟩ := pl_cells K3
          clear hb K2 B2
          go_wp2
          go_ret
          exact ⟨rfl, B3⟩
      · have e := HQ3.out
        rw [if_pos hmk] at e
        injection e with e1 e2
        subst e1 e2
        have HMK := Lib.hid hmk
        have HAA := Lib.hid (fun w' => HA.out rfl hsd hmk w')
        clear HQ3 HA hmk
        rcases hsd with rfl | rfl
        all_goals
          go_enter Tryd.func5, Tryd.ntmps5
          go_wp2_with fail
          refine (HG.out _ B0).mono ?_
          rintro e w1 ⟨rfl, hb⟩
          have B1 := below_trans B0 hb
          have K1 := K0.below hb
          clear y0 y1 y2 y3 y4 y5 y6 y7 y8 y9 y10 y11 y12
          obtain ⟨y0, y1, y2, y3, y4, y5, y6, y7, y8, y9, y10, y11, y12⟩ := pl_cells K1
          clear hb K0 B0
          go_wp2_with fail
          refine (HP.out _ B1).mono ?_
          rintro e w2 ⟨rfl, hb⟩
          have B2 := below_trans B1 hb
          have K2 := K1.below hb
          clear y0 y1 y2 y3 y4 y5 y6 y7 y8 y9 y10 y11 y12
          obtain ⟨y0, y1, y2, y3, y4, y5, y6, y7, y8, y9, y10, y11, y12⟩ := pl_cells K2
          clear hb K1 B1
          go_wp2_with fail
          refine (rfits_any _ _).mono ?_
          rw [HMK.out]
          rintro e w' ⟨rfl, rfl⟩
          go_wp2_with fail
          refine (planBegun_any _ (HM.out.below B2)).mono ?_
          rintro e w3 ⟨rfl, hb⟩
          have B3 := below_trans B2 hb
          have K3 := K2.below hb
          clear y0 y1 y2 y3 y4 y5 y6 y7 y8 y9 y10 y11 y12
          obtain ⟨y0, y1, y2, y3, y4, y5, y6, y7, y8, y9, y10, y11, y12⟩ := pl_cells K3
          clear hb K2 B2
          go_wp2_with fail
          refine (HAA.out _).mono ?_
          rintro e w4 ⟨rfl, hb⟩
          have B4 := below_trans B3 hb
          have K4 := K3.below hb
          clear y0 y1 y2 y3 y4 y5 y6 y7 y8 y9 y10 y11 y12
          obtain ⟨y0, y1, y2, y3, y4, y5, y6, y7, y8, y9, y10, y11, y12⟩ := pl_cells K4
          clear hb K3 B3
          go_wp2
          go_ret
          exact ⟨rfl, B4⟩
    · have e := HQ2.out
      rw [if_neg hsd] at e
      injection e with e1 e2
      subst e1 e2
      have b1 := bneT (fun h => hsd (.inl h) : side ≠ 1)
      have b2 := bneT (fun h => hsd (.inr h) : side ≠ 2)
      clear HQ2 HA hsd
      go_enter Tryd.func5, Tryd.ntmps5
      go_wp2_with fail
      refine (HG.out _ B0).mono ?_
      rintro e w1 ⟨rfl, hb⟩
      have B1 := below_trans B0 hb
      have K1 := K0.below hb
      clear y0 y1 y2 y3 y4 y5 y6 y7 y8 y9 y10 y11 y12
      obtain ⟨y0, y1, y2, y3, y4, y5, y6, y7, y8, y9, y10, y11, y12⟩ := pl_cells K1
      clear hb K0 B0
      go_wp2_with fail
      refine (HP.out _ B1).mono ?_
      rintro e w2 ⟨rfl, hb⟩
      have B2 := below_trans B1 hb
      have K2 := K1.below hb
      clear y0 y1 y2 y3 y4 y5 y6 y7 y8 y9 y10 y11 y12
      obtain ⟨y0, y1, y2, y3, y4, y5, y6, y7, y8, y9, y10, y11, y12⟩ := pl_cells K2
      clear hb K1 B1
      go_wp2_with fail
      refine (planBegun_any _ (HM.out.below B2)).mono ?_
      rintro e w3 ⟨rfl, hb⟩
      have B3 := below_trans B2 hb
      have K3 := K2.below hb
      clear y0 y1 y2 y3 y4 y5 y6 y7 y8 y9 y10 y11 y12
      obtain ⟨y0, y1, y2, y3, y4, y5, y6, y7, y8, y9, y10, y11, y12⟩ := pl_cells K3
      clear hb K2 B2
      go_wp2
      go_ret
      exact ⟨rfl, B3⟩
  · have e := HQ.out
    rw [if_neg hq] at e
    injection e with e1 e2
    subst e1
    have hz' := bneT hq
    have hz0 := beqF hq
    have hzz : (q == q) = true := by simp
    subst e2
    clear HQ HA hq
    go_enter Tryd.func5, Tryd.ntmps5
    go_wp2_with fail
    refine (HG.out _ B0).mono ?_
    rintro e w1 ⟨rfl, hb⟩
    have B1 := below_trans B0 hb
    have K1 := K0.below hb
    clear y0 y1 y2 y3 y4 y5 y6 y7 y8 y9 y10 y11 y12
    obtain ⟨y0, y1, y2, y3, y4, y5, y6, y7, y8, y9, y10, y11, y12⟩ := pl_cells K1
    clear hb K0 B0
    go_wp2_with fail
    refine (HP.out _ B1).mono ?_
    rintro e w2 ⟨rfl, hb⟩
    have B2 := below_trans B1 hb
    have K2 := K1.below hb
    clear y0 y1 y2 y3 y4 y5 y6 y7 y8 y9 y10 y11 y12
    obtain ⟨y0, y1, y2, y3, y4, y5, y6, y7, y8, y9, y10, y11, y12⟩ := pl_cells K2
    clear hb K1 B1
    go_wp2_with fail
    refine (planBegun_any _ (HM.out.below B2)).mono ?_
    rintro e w3 ⟨rfl, hb⟩
    have B3 := below_trans B2 hb
    have K3 := K2.below hb
    clear y0 y1 y2 y3 y4 y5 y6 y7 y8 y9 y10 y11 y12
    obtain ⟨y0, y1, y2, y3, y4, y5, y6, y7, y8, y9, y10, y11, y12⟩ := pl_cells K3
    clear hb K2 B2
    go_wp2
    go_ret
    exact ⟨rfl, B3⟩

end Go.Proofs.YtelmlagolmabpaaDoor
