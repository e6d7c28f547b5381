/-
  Batches: turned; the law BatchTurns. (Printed by genbat27.py.)
-/
import Derived.Test.YtjhbeecmdgglgaaGreatDoorGrpX37
import Derived.Test.YtjhbeecmdgglgaaGreatDoorGrpX36
import Derived.Test.YtjhbeecmdgglgaaGreatDoorGrpX38
import Derived.Test.YtjhbeecmdgglgaaGreatDoorBatLaw10
import Derived.Test.YtjhbeecmdgglgaaGreatDoorBat29
import Derived.Test.YtjhbeecmdgglgaaGreatDoorGrpX15
import Derived.Test.YtjhbeecmdgglgaaGreatDoorGrpX43
set_option linter.unusedSimpArgs false
set_option linter.unusedVariables false
namespace Go.Proofs.YtjhbeecmdgglgaaGreatDoor
open Go.RowKit

set_option maxHeartbeats 8000000 in
set_option maxRecDepth 10000 in
theorem batchTurns_walk (p : Pl) (vL vR : Value) (L R : List Chn) (w : World) (h : p.ok w) (hfit : p.fit) (hL : Chs w vL L) (hcL : FineC L) (hR : Chs w vR R) (hcR : FineC R) (hm : Mx w) :
    Calls Tryz.prog 5 #[.agg #[.int .i64 p.kind, .int .i64 p.mode, .int .i64 p.low, .int .i64 p.high, .int .i64 p.size, .int .i64 p.limit, p.vl, p.vr, p.vk, p.vq, .bool p.grouped, p.vg, p.va], vL, vR] w fun e w' => e = .returned (.bool true) ∧ Below w.heap.size w w' := by
  have hfl := hcL.rows
  have hfr := hcR.rows
  have HM := Lib.hid hm
  have HJ := Lib.hid (fun (W : World) (hb : Below w.heap.size w W) => bjoin_any p vL vR L R W (h.below hb) hfit (hL.below hb) (hR.below hb) hfl hfr (hm.below hb))
  have HT := Lib.hid (fun (hz : batchE p (ac L) (ac R) = 0) (hk : p.kind ≠ 3) => turned_all hz hk (nums_ac hfl hfr))
  have HC := Lib.hid (fun (hz : batchE p (ac L) (ac R) = 0) => (batch_zero.1 hz).plan)
  have HU := Lib.hid (fun (W : World) (hb : Below w.heap.size w W) (hz : checkP p = 0) (hk : p.kind ≠ 3) => turned_any p W (h.below hb) hz hk)
  have HK := Lib.hid (fun (W : World) (hb : Below w.heap.size w W) => bjoin_any (turnPl p) vR vL R L W (turn_ok (h.below hb)) (turn_fit hfit) (hR.below hb) (hL.below hb) hfr hfl (hm.below hb))
  have HK := Lib.hid (fun (W : World) (hb : Below w.heap.size w W) => show Calls Tryz.prog 10 #[.agg #[.int .i64 p.kind, .int .i64 (turnM p.mode), .int .i64 (-p.high), .int .i64 (-p.low), .int .i64 p.size, .int .i64 p.limit, p.vr, p.vl, p.vq, p.vk, .bool false, .slice none 0 0, .slice none 0 0], vR, vL] W fun e w' => ∃ v' l', e = .returned (.tuple #[v', .int .i64 (batchE (turnPl p) (ac R) (ac L))]) ∧ View w' v' l' ∧ av l' = (if batchE (turnPl p) (ac R) (ac L) = 0 then viewR (joinL (turnPl p) (ac R) (ac L)) else []) ∧ Below W.heap.size W w' from HK.out W hb)
  have HMM := Lib.hid (fun (hz : batchE p (ac L) (ac R) = 0) (hk : p.kind ≠ 3) => (plan_nums (batch_zero.1 hz).plan hk).1)
  obtain ⟨E, hE⟩ : ∃ y, batchE p (ac L) (ac R) = y := ⟨_, rfl⟩
  rw [hE] at HJ HT HC HMM
  clear hE
  obtain ⟨J, hJ⟩ : ∃ y, viewR (joinL p (ac L) (ac R)) = y := ⟨_, rfl⟩
  rw [hJ] at HJ
  have HJE := Lib.hid hJ
  clear hJ
  obtain ⟨A0, c0, h0, n0, m0, -⟩ := id h.l
  obtain ⟨A1, c1, h1, n1, m1, -⟩ := id h.r
  obtain ⟨A2, c2, h2, n2, m2, -⟩ := id h.k
  obtain ⟨A3, c3, h3, n3, m3, -⟩ := id h.q
  obtain ⟨A4, c4, h4, n4, m4, -⟩ := id h.g
  obtain ⟨A5, c5, h5, n5, m5, -⟩ := id h.a
  obtain ⟨AL, cL, rfl, -⟩ := id hL.sl
  obtain ⟨AR, cR, rfl, nR, mR, -⟩ := id hR.sl
  rw [h0, h1, h2, h3, h4, h5] at HJ HU ⊢
  rw [h0, h1, h2, h3] at HK
  have HB := Lib.hid (below_alloc w (.cells #[.int .i64 p.kind, .int .i64 p.mode, .int .i64 p.low, .int .i64 p.high, .int .i64 p.size, .int .i64 p.limit, .slice A0 p.left.length c0, .slice A1 p.right.length c1, .slice A2 p.lkeys.length c2, .slice A3 p.rkeys.length c3, .bool p.grouped, .slice A4 p.group.length c4, .slice A5 p.aggs.length c5] 25))
  have HK0 := Lib.hid (Blk.new w 25 #[.int .i64 p.kind, .int .i64 p.mode, .int .i64 p.low, .int .i64 p.high, .int .i64 p.size, .int .i64 p.limit, .slice A0 p.left.length c0, .slice A1 p.right.length c1, .slice A2 p.lkeys.length c2, .slice A3 p.rkeys.length c3, .bool p.grouped, .slice A4 p.group.length c4, .slice A5 p.aggs.length c5])
  obtain ⟨W1, hW1⟩ : ∃ V, w.alloc (.cells #[.int .i64 p.kind, .int .i64 p.mode, .int .i64 p.low, .int .i64 p.high, .int .i64 p.size, .int .i64 p.limit, .slice A0 p.left.length c0, .slice A1 p.right.length c1, .slice A2 p.lkeys.length c2, .slice A3 p.rkeys.length c3, .bool p.grouped, .slice A4 p.group.length c4, .slice A5 p.aggs.length c5] 25) = V := ⟨_, rfl⟩
  rw [hW1] at HB HK0
  have hb1 := HB.out
  obtain ⟨z0, z1, z2, z3, z4, z5, z6, z7, z8, z9, z10, z11, z12⟩ := pl_cells HK0.out
  clear h h0 h1 h2 h3 h4 h5 n0 n1 n2 n3 n4 n5 m0 m1 m2 m3 m4 m5 hL hR hcL hcR hfl hfr hfit hm
  go_enter Tryz.func5, Tryz.ntmps5
  go_wp2_with fail
  refine Calls.mono (by with_reducible exact HJ.out _ hb1) ?_
  rintro e w2 ⟨v2, l2, rfl, hV2, ha2, hb2⟩
  have HV2 := Lib.hid hV2
  have HA2 := Lib.hid ha2
  obtain ⟨Av, cv, rfl, -⟩ := id hV2.sl
  have hy2 := hb2
  have hbw2 := below_trans hb1 hb2
  have HBG := Lib.hid (fun (W : World) (hb : Below w.heap.size w W) => batchBegun_any W (HM.out.below hb))
  clear hV2 ha2 hb2 hW1 z0 z1 z2 z3 z4 z5 z6 z7 z8 z9 z10 z11 z12 HJ
  obtain ⟨z0, z1, z2, z3, z4, z5, z6, z7, z8, z9, z10, z11, z12⟩ := pl_cells (HK0.out.below hy2)
  by_cases hz : E = 0
  · subst hz
    by_cases hk : p.kind = 3
    · have hq := beqT hk
      clear hk
      go_wp2_with fail
      refine Calls.mono (by with_reducible exact HBG.out _ hbw2) ?_
      rintro e w4 ⟨rfl, hb4⟩
      have HF := Lib.hid (below_trans hbw2 hb4)
      go_wp2
      go_ret
      exact ⟨rfl, HF.out⟩
    · have hq := beqF hk
      have HAJ : Hid (av l2 = J) := Lib.hid (by have := HA2.out; rwa [if_pos rfl] at this)
      have HT := Lib.hid (HT.out rfl hk)
      have HU := Lib.hid (fun W hb => HU.out W hb (HC.out rfl) hk)
      have HK : Hid (∀ (W : World) (hb : Below w.heap.size w W), Calls Tryz.prog 10 #[.agg #[.int .i64 p.kind, .int .i64 (turnM p.mode), .int .i64 (-p.high), .int .i64 (-p.low), .int .i64 p.size, .int .i64 p.limit, .slice A1 p.right.length c1, .slice A0 p.left.length c0, .slice A3 p.rkeys.length c3, .slice A2 p.lkeys.length c2, .bool false, .slice none 0 0, .slice none 0 0], .slice AR R.length cR, .slice AL L.length cL] W fun e w' => ∃ v' l', e = .returned (.tuple #[v', .int .i64 0]) ∧ View w' v' l' ∧ av l' = viewR (joinL (turnPl p) (ac R) (ac L)) ∧ Below W.heap.size W w') := Lib.hid (fun W hb => by
        have h1 := HK.out W hb
        rw [HT.out.1, if_pos rfl] at h1
        exact h1)
      have HTW := Lib.hid HT.out.2
      obtain ⟨TW, hTW⟩ : ∃ y, viewR (joinL (turnPl p) (ac R) (ac L)) = y := ⟨_, rfl⟩
      rw [hTW] at HK HTW
      clear hk hTW HT HMM
      go_wp2_with fail
      refine Calls.mono (by with_reducible exact HU.out _ hbw2) ?_
      rintro e w3 ⟨rfl, hb3⟩
      have hy3 := below_trans hy2 hb3
      have hbw3 := below_trans hbw2 hb3
      clear z0 z1 z2 z3 z4 z5 z6 z7 z8 z9 z10 z11 z12
      have z7 := (HK0.out.below hy3).cell 7 _ rfl
      go_wp2_with fail
      refine Calls.mono (by with_reducible exact HK.out _ hbw3) ?_
      rintro e w4 ⟨v4, l4, rfl, hV4, ha4, hb4⟩
      have hy4 := below_trans hy3 hb4
      have hbw4 := below_trans hbw3 hb4
      have HV4 := Lib.hid hV4
      have HA4 := Lib.hid ha4
      have HLN : Hid (TW.length = l4.length) := Lib.hid (by rw [← ha4]; unfold av; exact List.length_map _)
      obtain ⟨Aw, cw, rfl, -⟩ := id hV4.sl
      have hl4 : l4.length ≤ 4096 := by have h1 := HTW.out.view.few; rw [HLN.out] at h1; exact h1
      have hb234 := Lib.hid (below_trans hb3 hb4)
      clear z7 hV4 ha4 hb3 hb4
      have z7 := (HK0.out.below hy4).cell 7 _ rfl
      go_wp2_with fail
      go_loopw [12, 13, 14] (fun lv iv _ wr => ∃ (i : Nat) (m : List Chn), i ≤ l4.length ∧ iv = .int .i64 i ∧ Hid (OwnC wr w4.heap.size lv m) ∧ Hid (ac m = turnsL p.right.length (TW.take i)) ∧ Below w4.heap.size w4 wr) (fun _ iv _ _ => l4.length - (intOf iv).toNat)
      case atStart => exact ⟨0, [], by omega, rfl, Lib.hid (OwnC.nil _ _), Lib.hid rfl, Below.refl _ _⟩
      case round =>
        rename World => wr
        obtain ⟨i, m, hi, rfl, HO, HA, hbr⟩ := hrel
        have hyr := below_trans hy4 hbr
        have hBr := below_trans hb1 hyr
        have i0 : (0 : Int) ≤ (i : Int) := by omega
        by_cases hlt : i < l4.length
        · have hx := List.getElem?_eq_getElem (l := l4) hlt
          generalize l4[i] = c at hx
          have hcm := List.mem_of_getElem? hx
          have hq4 : TW[i]? = some (c.r, c.n) := by rw [← HA4.out]; unfold av; rw [List.getElem?_map, hx]; rfl
          have hqm := List.mem_of_getElem? hq4
          have HCL := Lib.hid (HTW.out.cols (c.r, c.n) hqm)
          have HNN := Lib.hid (HTW.out.nums (c.r, c.n) hqm)
          have HST := Lib.hid (turns_step (n := p.right.length) hq4)
          obtain ⟨b1, o1, hA1, -, hc1⟩ := cnt_at HV4.out.sl rfl hx
          subst hA1
          obtain ⟨Ac, cc, ec, nc, mc, -, hcl⟩ := id (HV4.out.rows c hcm)
          obtain ⟨ba, oa, hAc, -⟩ := hcl (by
            intro e
            have h1 := congrArg List.length e
            rw [rowCells_len] at h1
            have h2 := HCL.out.1
            simp only [List.length_nil] at h1 h2
            omega)
          subst hAc
          clear hcl
          rw [ec] at hc1
          have HC1 := Lib.hid hc1
          have HSC : Hid (∀ (W : World) (hb : Below w4.heap.size w4 W), Sl W (.slice (some ⟨ba, oa, none⟩) c.r.length cc) c.r.length (rowCells c.r)) := Lib.hid (fun W hb => by have := (HV4.out.rows c hcm).below hb; rwa [ec] at this)
          have hcn : ¬ cc = p.right.length := by have := HCL.out.1; simp only at this; omega
          have HTR : Hid (∀ (W : World) (hb : Below w4.heap.size w4 W), Sl W (.slice (some ⟨ba, oa, none⟩) p.right.length cc) (c.r.take p.right.length).length (rowCells (c.r.take p.right.length))) := Lib.hid (fun W hb => by
            have h1 := (HSC.out W hb).take (size := 3) (Nat.le_of_lt HCL.out.1)
            rw [show (rowCells c.r).take (p.right.length * 3) = rowCells (c.r.take p.right.length) from flat_take Val.cells_len c.r p.right.length] at h1
            rwa [List.length_take, Nat.min_eq_left (Nat.le_of_lt HCL.out.1)])
          have HDR : Hid (∀ (W : World) (hb : Below w4.heap.size w4 W), Sl W (.slice (some ⟨ba, oa + p.right.length * 3, none⟩) (c.r.length - p.right.length) (cc - p.right.length)) (c.r.drop p.right.length).length (rowCells (c.r.drop p.right.length))) := Lib.hid (fun W hb => by
            have h1 := (HSC.out W hb).drop (size := 3) (rowCells_len c.r) (Nat.le_of_lt HCL.out.1)
            rw [show (rowCells c.r).drop (p.right.length * 3) = rowCells (c.r.drop p.right.length) from flat_drop Val.cells_len c.r p.right.length] at h1
            rw [if_neg hcn, Option.map_some, Addr.add_lit] at h1
            rwa [List.length_drop])
          have i1 : (i : Int) < (l4.length : Int) := by omega
          have hnle : ¬ (c.r.length : Int) < (p.right.length : Int) := by have := HCL.out.1; simp only at this; omega
          have hnl2 : (p.right.length : Int) ≤ (c.r.length : Int) := by have := HCL.out.1; simp only at this; omega
          have hnl3 : (p.right.length : Int) ≤ (cc : Int) := by have := HCL.out.1; simp only at this; omega
          obtain ⟨d1, -⟩ := hc1 _ hbr
          obtain ⟨N, hN⟩ : ∃ N : Nat, c.n = (N : Int) := ⟨c.n.toNat, by have := HNN.out; simp only at this; omega⟩
          have hN1 : N ≤ 4096 := by have := HNN.out; simp only at this; omega
          rw [hN] at HC1 HST
          clear hx hcm hq4 hqm hc1 ec hN HNN
          go_wp2_with fail
          go_loopw [12, 14] (fun lv kv wr2 => ∃ (k : Nat) (m : List Chn), k ≤ N ∧ kv = .int .i64 k ∧ Hid (OwnC wr2 w4.heap.size lv m) ∧ Hid (ac m = turnsL p.right.length (TW.take i) ++ List.replicate k (1, turnR p.right.length c.r)) ∧ Below w4.heap.size w4 wr2) (fun _ kv _ => N - (intOf kv).toNat)
          case atStart => exact ⟨0, m, by omega, rfl, HO, Lib.hid (by rw [HA.out]; simp), hbr⟩
          case round =>
            rename World => wr2
            clear HO HA
            clear m
            obtain ⟨k, m, hk, rfl, HO, HA, hb3⟩ := hrel
            have hyw2 := below_trans hy4 hb3
            obtain ⟨d1, d2⟩ := HC1.out _ hb3
            have k0 : (0 : Int) ≤ (k : Int) := by omega
            by_cases hlk : k < N
            · have k1 : (k : Int) < (N : Int) := by omega
              have k2 : (k : Int) ≤ 4096 := by omega
              have hmlen : m.length ≤ 10000 := by
                have h1 := congrArg List.length HA.out
                unfold ac at h1
                rw [List.length_map, List.length_append, List.length_replicate] at h1
                have h2 : (turnsL p.right.length (TW.take i)).length ≤ 4096 := by
                  have h3 := HTW.out.few
                  rw [List.length_map] at h3
                  unfold turnsL
                  rw [List.length_map]
                  refine Nat.le_trans ?_ h3
                  unfold expand
                  conv => rhs; rw [← List.take_append_drop i TW]
                  rw [List.flatMap_append, List.length_append]
                  omega
                omega
              have HSS := Lib.hid (fun w' (h : Below w4.heap.size w4 w') => (HC1.out w' h).1)
              have hd0 : Below w4.heap.size w4 wr2.drew := hb3.drew
              have Q1 : Hid (m.length + 1 ≤ maxLen) := Lib.hid (by unfold maxLen; omega)
              have Q2 : Hid ((m.length + 1) * 32 ≤ 140737488355328) := Lib.hid (by omega)
              have hnz : (0 : Int) ≤ (p.right.length : Int) := by omega
              go_upto_region 15 with fail
              refine tr (S := (fun w' => w'.cell? ⟨b1, o1 + i * 2, none⟩ = some (.slice (some ⟨ba, oa, none⟩) c.r.length cc))) (HSS.out _ hd0) (fun hHeld => ?_)
              refine tk 0 ?_; refine tk 1 ?_; refine tk 2 ?_; refine tk 3 ?_; refine tk 4 ?_; refine tk 5 ?_; refine tk 6 ?_; refine tk 7 ?_; refine tk 8 ?_; refine tk 9 ?_; refine tk 10 ?_; refine tk 11 ?_
              refine tk 12 ?_; refine tk 13 ?_; refine tk 14 ?_
              refine tc 15 ?_
              intro K hK
              go_simp
              refine Calls.mono (both_any _ _ (c.r.drop p.right.length) (c.r.take p.right.length) _ (HDR.out _ hd0) (HTR.out _ hd0) (by have := HCL.out; rw [List.length_drop]; omega) (by have := HCL.out; rw [List.length_take]; omega)) ?_
              rintro e x4 ⟨v9, rfl, ho9, hb9⟩
              obtain ⟨A9, n9, c9, rfl⟩ := own_slice ho9
              have hd4 := below_trans hd0 hb9
              have hx4 : Below wr2.heap.size wr2 x4 := below_trans ((Below.refl _ wr2).drew) hb9
              have HO9 := Lib.hid ho9
              clear ho9 hb9
              go_wp2_with fail
              refine hK.out _ _ (HSS.out _ hd4) (fun hHeld15 => ?_)
              clear hK K
              refine tk 16 ?_
              refine tc 17 ?_
              intro K hK
              go_simp
              have hd5 := hd4.alloc hd4.size (.cells #[.int .i64 1, .slice A9 n9 c9] 48)
              have HOX := Lib.hid ((HO.out.below hx4).alloc (.cells #[.int .i64 1, .slice A9 n9 c9] 48))
              have HCH := Lib.hid (one_chn x4 ⟨.slice A9 n9 c9, turnR p.right.length c.r, 1⟩)
              have HSZ := Lib.hid hd5.size
              refine hK.out _ _ (HSS.out _ hd5) (fun hHeld17 => ?_)
              clear hK K
              refine tc 18 ?_
              intro K hK
              refine step_app (by rfl) _ _ 42 (by rfl) w4.heap.size 48 2 32 Tryz.underlying42 chgI _ m.length _ (by rfl) HOX.out.own _ 1 (Chn.cells ⟨.slice A9 n9 c9, turnR p.right.length c.r, 1⟩) (by rfl) HCH.out rfl (chn_one (Sl.of_own HO9.out)) Q1.out Q2.out HSZ.out ?_
              intro v5 x5 hown5 hg5 hat5
              have HNW := Lib.hid (HOX.out.snoc (c := ⟨.slice A9 n9 c9, turnR p.right.length c.r, 1⟩) hown5 hg5 hat5 ((Sl.of_own HO9.out).below (below_alloc x4 (.cells #[.int .i64 1, .slice A9 n9 c9] 48))) (fun j hj => by
                have h1 := own_ge HO9.out j hj
                have h2 := own_lt HO9.out j hj
                have h3 := hd0.size
                refine ⟨Nat.le_trans h3 h1, by rw [World.size_alloc]; omega, fun e => ?_⟩
                have h4 := own_lt HO.out.own j e
                have h5 : wr2.drew.heap.size = wr2.heap.size := rfl
                omega))
              have hd6 := hd5.grown hg5 hd5.size (fun j hj => own_ge HOX.out.own j hj)
              clear hown5 hg5 hat5
              refine hK.out _ _ (HSS.out _ hd6) (fun hHeld18 => ?_)
              clear hK K
              refine tk 19 ?_
              refine td ?_
              have HB6 := Lib.hid hd6
              have HA6 : Hid (ac (m ++ [⟨.slice A9 n9 c9, turnR p.right.length c.r, 1⟩]) = turnsL p.right.length (TW.take i) ++ List.replicate (k + 1) (1, turnR p.right.length c.r)) := Lib.hid (by
                have h1 := HA.out
                unfold ac at h1 ⊢
                rw [List.map_append, h1, List.append_assoc, List.replicate_succ']
                rfl)
              go_wp2
              go_roundw
              case rel =>
                first
                  | exact ⟨k + 1, _, by omega, by go_num, HNW, HA6, HB6.out⟩
                  | exact ⟨k + 1, by omega, by omega, _, HNW, HA6⟩
                  | ((repeat apply Exists.intro); exact ⟨⟨k + 1, _, by omega, by go_num, HNW, HA6, HB6.out⟩, rfl⟩)
              case measure => simp [intOf]; omega
            · obtain rfl : k = N := by omega
              have hq3 : ¬ (k : Int) < (k : Int) := by omega
              have HA6 : Hid (ac m = turnsL p.right.length (TW.take (i + 1))) := Lib.hid (by
                have h1 := HST.out
                simp only [Int.toNat_natCast] at h1
                rw [h1, HA.out])
              have HB6 := Lib.hid hb3
              go_wp2
              go_roundw
              case rel =>
                first
                  | exact ⟨i + 1, m, by omega, by go_num, HO, HA6, HB6.out⟩
                  | exact ⟨i + 1, by omega, by omega, m, HO, HA6⟩
                  | ((repeat apply Exists.intro); exact ⟨⟨i + 1, m, by omega, by go_num, HO, HA6, HB6.out⟩, rfl⟩)
              case measure => simp [intOf]; omega
        · obtain rfl : i = l4.length := by omega
          have hq3 : ¬ (l4.length : Int) < (l4.length : Int) := by omega
          have HAZ : Hid (ac m = ((expand TW).map (turnR p.right.length)).map fun r => (1, r)) := Lib.hid (by
            have h1 := HA.out
            rw [List.take_of_length_le (by rw [HLN.out]; exact Nat.le_refl _)] at h1
            rw [h1, turns_rows])
          obtain ⟨hfm, hfs⟩ := ins_fold HAZ.out HTW.out.good HTW.out.few
          have HFO := Lib.hid (cfold_any (.slice none 0 0) _ [] m wr ⟨Sl.nil_ _, nofun⟩ ⟨nofun, nofun⟩ HO.out.chs hfm (HM.out.below hBr))
          rw [hfs] at HFO
          have HSM := Lib.hid HTW.out.same
          obtain ⟨B5, n5, c5, hv5⟩ := own_slice HO.out.own
          subst hv5
          have HV2 := Lib.hid (HV2.out.below (below_trans hb234.out hbr))
          clear hfm hfs HAZ
          go_wp2_with fail
          refine Calls.mono (by with_reducible exact HFO.out) ?_
          rintro e w6 ⟨v6, l6, rfl, hV6, ha6, hb6⟩
          have HV6 := Lib.hid hV6
          have HA6 : Hid (av l6 = J) := Lib.hid (by rw [ha6]; exact HSM.out.trans HJE.out)
          obtain ⟨B6, n6, rfl, -⟩ := id hV6.sl
          have HV2 := Lib.hid (HV2.out.below hb6)
          have hB6 := below_trans hBr hb6
          have HSV := Lib.hid (fun (W : World) (hb : Below w6.heap.size w6 W) => sameViews_any (.slice B6 l6.length n6) (.slice Av l2.length cv) l6 l2 W (HV6.out.below hb) (HV2.out.below hb) (by rw [HAJ.out, HA6.out]))
          clear hV6 ha6 hb6
          go_wp2_with fail
          refine Calls.mono (by with_reducible exact HBG.out _ hB6) ?_
          rintro e w7 ⟨rfl, hb7⟩
          go_wp2_with fail
          refine Calls.mono (by with_reducible exact HSV.out _ hb7) ?_
          rintro e w8 ⟨rfl, hb8⟩
          have HF := Lib.hid (below_trans hB6 (below_trans hb7 hb8))
          go_wp2
          go_ret
          exact ⟨rfl, HF.out⟩
  · have hq := bneT hz
    clear hz HT HC HU HK HMM
    go_wp2_with fail
    refine Calls.mono (by with_reducible exact HBG.out _ hbw2) ?_
    rintro e w4 ⟨rfl, hb4⟩
    have HF := Lib.hid (below_trans hbw2 hb4)
    go_wp2
    go_ret
    exact ⟨rfl, HF.out⟩
end Go.Proofs.YtjhbeecmdgglgaaGreatDoor
