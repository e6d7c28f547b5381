/-
  Batches: leftParts; the law BatchKeeps. (Printed by genbat28.py.)
-/
import Derived.Test.YtjhbeecmdgglgaaGreatDoorGrpX37
import Derived.Test.YtjhbeecmdgglgaaGreatDoorGrpX36
import Derived.Test.YtjhbeecmdgglgaaGreatDoorGrpX44
import Derived.Test.YtjhbeecmdgglgaaGreatDoorGrpX3
import Derived.Test.YtjhbeecmdgglgaaGreatDoorBatLaw11
import Derived.Test.YtjhbeecmdgglgaaGreatDoorGrpX15
import Derived.Test.YtjhbeecmdgglgaaGreatDoorGrpX43
namespace Go.Proofs.YtjhbeecmdgglgaaGreatDoor
open Go.RowKit

theorem same_dec (a b : List Val) : sameR a b = decide (a = b) := by
  rw [Bool.eq_iff_iff, sameR_iff, decide_eq_true_eq]
theorem withM_ok {w : World} {p : Pl} (h : p.ok w) (m : Int) : (withM p m).ok w := ⟨h.l, h.r, h.k, h.q, h.g, h.a⟩
theorem withM_fit {p : Pl} (h : p.fit) (m : Int) : (withM p m).fit := ⟨h.l, h.r, h.k, h.q, h.g, h.a⟩
set_option maxHeartbeats 4000000 in
set_option maxRecDepth 10000 in
theorem leftParts_any (v vr : Value) (l : List Cnt) (r : List Val) (w : World) (hV : View w v l) (hG : GoodA (av l)) (hr : Sl w vr r.length (rowCells r)) :
    Calls Tryz.prog 27 #[v, vr] w fun e w' => e = .returned (.int .i64 (leftN r (av l))) ∧ Below w.heap.size w w' := by
  have HV := Lib.hid hV
  have HR := Lib.hid hr
  have HG := Lib.hid hG
  obtain ⟨Av, cv, rfl, nv, mv, -⟩ := id hV.sl
  obtain ⟨Ar, cr, rfl, nr, mr, -⟩ := id hr
  unfold maxLen at mv mr
  have hfew : l.length ≤ 4096 := by have := hG.few; unfold av at this; rwa [List.length_map] at this
  have HFT : Hid (∀ k, 0 ≤ leftN r ((av l).take k) ∧ leftN r ((av l).take k) ≤ 4398046511104) := Lib.hid (fun k => by
    have h1 := leftN_few (r := r) (A := (av l).take k) (fun q hq => HG.out.nums q (List.mem_of_mem_take hq))
    have h2 : ((av l).take k).length ≤ 4096 := by rw [List.length_take]; have := HG.out.few; omega
    omega)
  clear hV hG hr nv nr
  go_enter Tryz.func27, Tryz.ntmps27
  go_wp2_with fail
  go_loopw [5, 6] (fun nv iv wr => ∃ i : Nat, i ≤ l.length ∧ iv = .int .i64 i ∧ nv = .int .i64 (leftN r ((av l).take i)) ∧ Below w.heap.size w wr) (fun _ iv _ => l.length - (intOf iv).toNat)
  case atStart => exact ⟨0, by omega, rfl, rfl, Below.refl _ _⟩
  case round =>
    rename World => wr
    obtain ⟨i, hi, rfl, rfl, hbr⟩ := hrel
    have i0 : (0 : Int) ≤ (i : Int) := by omega
    by_cases hlt : i < l.length
    · have hx := List.getElem?_eq_getElem (l := l) hlt
      generalize l[i] = c at hx
      have hcm := List.mem_of_getElem? hx
      have hq4 : (av l)[i]? = some (c.r, c.n) := by unfold av; rw [List.getElem?_map, hx]; rfl
      have HST := Lib.hid (leftN_step (r := r) hq4)
      have HNX := Lib.hid (HFT.out (i + 1))
      have HN0 := Lib.hid (HFT.out i)
      obtain ⟨b1, o1, hA1, -, hc1⟩ := cnt_at HV.out.sl rfl hx
      subst hA1
      obtain ⟨Ac, cc, ec, nc, mc, -⟩ := id (HV.out.rows c hcm)
      rw [ec] at hc1
      have HC1 := Lib.hid hc1
      have HSC : Hid (∀ (W : World) (hb : Below w.heap.size w W), Sl W (.slice Ac c.r.length cc) c.r.length (rowCells c.r)) := Lib.hid (fun W hb => by have := (HV.out.rows c hcm).below hb; rwa [ec] at this)
      obtain ⟨d1, d2⟩ := hc1 _ hbr
      have i1 : (i : Int) < (l.length : Int) := by omega
      obtain ⟨X, hX⟩ : ∃ X, leftN r ((av l).take i) = X := ⟨_, rfl⟩
      rw [hX] at HST HN0 ⊢
      clear hx hcm hq4 hc1 ec hX
      by_cases hle : r.length ≤ c.r.length
      · have hge : (c.r.length : Int) ≥ (r.length : Int) := by omega
        have hge2 : (r.length : Int) ≤ (c.r.length : Int) := by omega
        have hge3 : (r.length : Int) ≤ (cc : Int) := by omega
        have HTR : Hid (∀ (W : World) (hb : Below w.heap.size w W), Sl W (.slice Ac r.length cc) (c.r.take r.length).length (rowCells (c.r.take r.length))) := Lib.hid (fun W hb => by
          have h1 := (HSC.out W hb).take (size := 3) hle
          rw [show (rowCells c.r).take (r.length * 3) = rowCells (c.r.take r.length) from flat_take Val.cells_len c.r r.length] at h1
          rwa [List.length_take, Nat.min_eq_left hle])
        have HSA := Lib.hid (fun (W : World) (hb : Below w.heap.size w W) => same_any (.slice Ac r.length cc) (.slice Ar r.length cr) (c.r.take r.length) r W (HTR.out W hb) (HR.out.below hb))
        have HQ : Hid (startsR r c.r = sameR (c.r.take r.length) r) := Lib.hid (by unfold startsR; rw [same_dec, decide_eq_true hle]; rfl)
        obtain ⟨Q, hQ⟩ : ∃ Q, sameR (c.r.take r.length) r = Q := ⟨_, rfl⟩
        rw [hQ] at HSA HQ
        clear hQ
        go_wp2_with fail
        refine Calls.mono (by with_reducible exact HSA.out _ hbr) ?_
        rintro e w4 ⟨rfl, hb4⟩
        have hb5 := below_trans hbr hb4
        obtain ⟨d1, d2⟩ := HC1.out _ hb5
        cases Q with
        | true =>
          have HS2 : Hid (leftN r ((av l).take (i + 1)) = X + c.n) := Lib.hid (by rw [HST.out, HQ.out, if_pos rfl])
          have hw : IntKind.i64.wrap (X + c.n) = X + c.n := by have h1 := HNX.out; rw [HS2.out] at h1; rw [IntKind.wrap_i64]; omega
          go_wp2
          go_roundw
          case rel =>
            first
              | exact ⟨i + 1, by omega, by go_num, by rw [HS2.out], hb5⟩
              | ((repeat apply Exists.intro); exact ⟨⟨i + 1, by omega, by go_num, by rw [HS2.out], hb5⟩, rfl⟩)
          case measure => simp [intOf]; omega
        | false =>
          have HS2 : Hid (leftN r ((av l).take (i + 1)) = X) := Lib.hid (by rw [HST.out, HQ.out]; simp)
          go_wp2
          go_roundw
          case rel =>
            first
              | exact ⟨i + 1, by omega, by go_num, by rw [HS2.out], hb5⟩
              | ((repeat apply Exists.intro); exact ⟨⟨i + 1, by omega, by go_num, by rw [HS2.out], hb5⟩, rfl⟩)
          case measure => simp [intOf]; omega
      · have hge : ¬ (c.r.length : Int) ≥ (r.length : Int) := by omega
        have hge2 : (c.r.length : Int) < (r.length : Int) := by omega
        have HS2 : Hid (leftN r ((av l).take (i + 1)) = X) := Lib.hid (by
          rw [HST.out]
          have : startsR r c.r = false := by unfold startsR; rw [decide_eq_false hle]; rfl
          rw [this]; simp)
        go_wp2
        go_roundw
        case rel =>
          first
            | exact ⟨i + 1, by omega, by go_num, by rw [HS2.out], hbr⟩
            | ((repeat apply Exists.intro); exact ⟨⟨i + 1, by omega, by go_num, by rw [HS2.out], hbr⟩, rfl⟩)
        case measure => simp [intOf]; omega
    · obtain rfl : i = l.length := by omega
      have hq1 : ¬ (l.length : Int) < (l.length : Int) := by omega
      have HE : Hid ((av l).take l.length = av l) := Lib.hid (by rw [List.take_of_length_le]; unfold av; rw [List.length_map]; exact Nat.le_refl _)
      rw [HE.out]
      go_wp2
      go_ret
      first
        | exact ⟨rfl, hbr⟩
        | exact ⟨ret_int rfl, hbr⟩
set_option maxHeartbeats 8000000 in
set_option maxRecDepth 10000 in
theorem batchKeeps_walk (p : Pl) (vL vR : Value) (L R : List Chn) (w : World) (h : p.ok w) (hfit : p.fit) (hL : Chs w vL L) (hcL : FineC L) (hR : Chs w vR R) (hcR : FineC R) (hm : Mx w) :
    Calls Tryz.prog 8 #[.agg #[.int .i64 p.kind, .int .i64 p.mode, .int .i64 p.low, .int .i64 p.high, .int .i64 p.size, .int .i64 p.limit, p.vl, p.vr, p.vk, p.vq, .bool p.grouped, p.vg, p.va], vL, vR] w fun e w' => e = .returned (.bool true) ∧ Below w.heap.size w w' := by
  have hfl := hcL.rows
  have hfr := hcR.rows
  have HM := Lib.hid hm
  have HLC := Lib.hid hL
  have HJ := Lib.hid (fun (W : World) (hb : Below w.heap.size w W) => bjoin_any p vL vR L R W (h.below hb) hfit (hL.below hb) (hR.below hb) hfl hfr (hm.below hb))
  have HI : Hid (∀ (W : World) (hb : Below w.heap.size w W), Calls Tryz.prog 10 #[.agg #[.int .i64 p.kind, .int .i64 1, .int .i64 p.low, .int .i64 p.high, .int .i64 p.size, .int .i64 p.limit, p.vl, p.vr, p.vk, p.vq, .bool p.grouped, p.vg, p.va], vL, vR] W fun e w' => ∃ v' l', e = .returned (.tuple #[v', .int .i64 (batchE (withM p 1) (ac L) (ac R))]) ∧ View w' v' l' ∧ av l' = (if batchE (withM p 1) (ac L) (ac R) = 0 then viewR (joinL (withM p 1) (ac L) (ac R)) else []) ∧ Below W.heap.size W w') := Lib.hid (fun W hb => bjoin_any (withM p 1) vL vR L R W (withM_ok (h.below hb) 1) (withM_fit hfit 1) (hL.below hb) (hR.below hb) hfl hfr (hm.below hb))
  have HO : Hid (∀ (W : World) (hb : Below w.heap.size w W), Calls Tryz.prog 10 #[.agg #[.int .i64 p.kind, .int .i64 2, .int .i64 p.low, .int .i64 p.high, .int .i64 p.size, .int .i64 p.limit, p.vl, p.vr, p.vk, p.vq, .bool p.grouped, p.vg, p.va], vL, vR] W fun e w' => ∃ v' l', e = .returned (.tuple #[v', .int .i64 (batchE (withM p 2) (ac L) (ac R))]) ∧ View w' v' l' ∧ av l' = (if batchE (withM p 2) (ac L) (ac R) = 0 then viewR (joinL (withM p 2) (ac L) (ac R)) else []) ∧ Below W.heap.size W w') := Lib.hid (fun W hb => bjoin_any (withM p 2) vL vR L R W (withM_ok (h.below hb) 2) (withM_fit hfit 2) (hL.below hb) (hR.below hb) hfl hfr (hm.below hb))
  have HKA := Lib.hid (fun (hz : batchE p (ac L) (ac R) = 0) => keeps_all hz (nums_ac hfl hfr))
  have HFEW : Hid (batchE p (ac L) (ac R) = 0 → L.length ≤ 1000) := Lib.hid fun hz => by
    have h1 := (batch_zero.1 hz).few
    unfold ac at h1
    rw [List.length_map, List.length_map] at h1
    omega
  obtain ⟨E, hE⟩ : ∃ y, batchE p (ac L) (ac R) = y := ⟨_, rfl⟩
  rw [hE] at HJ HKA HFEW
  clear hE
  obtain ⟨A0, c0, h0, n0, m0, -⟩ := id h.l
  obtain ⟨A1, c1, h1, n1, m1, -⟩ := id h.r
  obtain ⟨A2, c2, h2, n2, m2, -⟩ := id h.k
  obtain ⟨A3, c3, h3, n3, m3, -⟩ := id h.q
  obtain ⟨A4, c4, h4, n4, m4, -⟩ := id h.g
  obtain ⟨A5, c5, h5, n5, m5, -⟩ := id h.a
  obtain ⟨AL, cL, rfl, -⟩ := id hL.sl
  obtain ⟨AR, cR, rfl, nR, mR, -⟩ := id hR.sl
  rw [h0, h1, h2, h3, h4, h5] at HJ HI HO ⊢
  have HB := Lib.hid (below_alloc w (.cells #[.int .i64 p.kind, .int .i64 p.mode, .int .i64 p.low, .int .i64 p.high, .int .i64 p.size, .int .i64 p.limit, .slice A0 p.left.length c0, .slice A1 p.right.length c1, .slice A2 p.lkeys.length c2, .slice A3 p.rkeys.length c3, .bool p.grouped, .slice A4 p.group.length c4, .slice A5 p.aggs.length c5] 25))
  have HK0 := Lib.hid (Blk.new w 25 #[.int .i64 p.kind, .int .i64 p.mode, .int .i64 p.low, .int .i64 p.high, .int .i64 p.size, .int .i64 p.limit, .slice A0 p.left.length c0, .slice A1 p.right.length c1, .slice A2 p.lkeys.length c2, .slice A3 p.rkeys.length c3, .bool p.grouped, .slice A4 p.group.length c4, .slice A5 p.aggs.length c5])
  obtain ⟨W1, hW1⟩ : ∃ V, w.alloc (.cells #[.int .i64 p.kind, .int .i64 p.mode, .int .i64 p.low, .int .i64 p.high, .int .i64 p.size, .int .i64 p.limit, .slice A0 p.left.length c0, .slice A1 p.right.length c1, .slice A2 p.lkeys.length c2, .slice A3 p.rkeys.length c3, .bool p.grouped, .slice A4 p.group.length c4, .slice A5 p.aggs.length c5] 25) = V := ⟨_, rfl⟩
  rw [hW1] at HB HK0
  have hb1 := HB.out
  obtain ⟨z0, z1, z2, z3, z4, z5, z6, z7, z8, z9, z10, z11, z12⟩ := pl_cells HK0.out
  clear h h0 h1 h2 h3 h4 h5 n0 n1 n2 n3 n4 n5 m0 m1 m2 m3 m4 m5 hL hR hcL hcR hfl hfr hfit hm
  go_enter Tryz.func8, Tryz.ntmps8
  go_wp2_with fail
  refine Calls.mono (by with_reducible exact HJ.out _ hb1) ?_
  rintro e w2 ⟨v2, l2, rfl, hV2, ha2, hb2⟩
  have HV2 := Lib.hid hV2
  have HA2 := Lib.hid ha2
  obtain ⟨Av, cv, rfl, -⟩ := id hV2.sl
  have hy2 := hb2
  have hbw2 := below_trans hb1 hb2
  have HBG := Lib.hid (fun (W : World) (hb : Below w.heap.size w W) => batchBegun_any W (HM.out.below hb))
  clear hV2 ha2 hb2 hW1 z0 z1 z2 z3 z4 z5 z6 z7 z8 z9 z10 z11 z12 HJ
  by_cases hz : E = 0
  · subst hz
    have HAV : Hid (av l2 = viewR (joinL p (ac L) (ac R))) := Lib.hid (by have := HA2.out; rwa [if_pos rfl] at this)
    clear HA2
    have HKA2 := Lib.hid (HKA.out rfl)
    clear HKA
    have HFW2 := Lib.hid (HFEW.out rfl)
    clear HFEW
    have HKW := Lib.hid HKA2.out.2.2
    rw [HKA2.out.1, if_pos rfl] at HI
    rw [HKA2.out.2.1, if_pos rfl] at HO
    clear HKA2
    obtain ⟨KV, hKV⟩ : ∃ y, viewR (joinL p (ac L) (ac R)) = y := ⟨_, rfl⟩
    obtain ⟨KA, hKA⟩ : ∃ y, viewR (joinL (withM p 1) (ac L) (ac R)) = y := ⟨_, rfl⟩
    obtain ⟨KB, hKB⟩ : ∃ y, viewR (joinL (withM p 2) (ac L) (ac R)) = y := ⟨_, rfl⟩
    rw [hKV, hKA, hKB] at HKW
    rw [hKV] at HAV
    rw [hKA] at HI
    rw [hKB] at HO
    clear hKV hKA hKB
    obtain ⟨z0, z1, z2, z3, z4, z5, z6, z7, z8, z9, z10, z11, z12⟩ := pl_cells (HK0.out.below hy2)
    have hgz : w.heap.size < w2.heap.size := Nat.lt_of_lt_of_le HK0.out.lt hy2.size
    go_upto_region 4 with fail
    go_cut [9, 10] from 32 to 33 (fun u v wx => ∃ b1 b2 : Nat, u = .pointer (some ⟨b1, 0, none⟩) ∧ v = .pointer (some ⟨b2, 0, none⟩) ∧ Hid (Blk wx b1 25 #[.int .i64 p.kind, .int .i64 p.mode, .int .i64 p.low, .int .i64 p.high, .int .i64 p.size, .int .i64 p.limit, .slice A0 p.left.length c0, .slice A1 p.right.length c1, .slice A2 p.lkeys.length c2, .slice A3 p.rkeys.length c3, .bool p.grouped, .slice A4 p.group.length c4, .slice A5 p.aggs.length c5] ∧ Blk wx b2 25 #[.int .i64 p.kind, .int .i64 p.mode, .int .i64 p.low, .int .i64 p.high, .int .i64 p.size, .int .i64 p.limit, .slice A0 p.left.length c0, .slice A1 p.right.length c1, .slice A2 p.lkeys.length c2, .slice A3 p.rkeys.length c3, .bool p.grouped, .slice A4 p.group.length c4, .slice A5 p.aggs.length c5] ∧ Below w2.heap.size w2 wx ∧ w2.heap.size ≤ b1 ∧ w2.heap.size ≤ b2 ∧ b1 ≠ b2))
    case first =>
      have HA := Lib.hid (And.intro (new_first w2 25 #[.int .i64 p.kind, .int .i64 p.mode, .int .i64 p.low, .int .i64 p.high, .int .i64 p.size, .int .i64 p.limit, .slice A0 p.left.length c0, .slice A1 p.right.length c1, .slice A2 p.lkeys.length c2, .slice A3 p.rkeys.length c3, .bool p.grouped, .slice A4 p.group.length c4, .slice A5 p.aggs.length c5] (.cells #[.int .i64 p.kind, .int .i64 p.mode, .int .i64 p.low, .int .i64 p.high, .int .i64 p.size, .int .i64 p.limit, .slice A0 p.left.length c0, .slice A1 p.right.length c1, .slice A2 p.lkeys.length c2, .slice A3 p.rkeys.length c3, .bool p.grouped, .slice A4 p.group.length c4, .slice A5 p.aggs.length c5] 25)) (And.intro (new_second w2 25 #[.int .i64 p.kind, .int .i64 p.mode, .int .i64 p.low, .int .i64 p.high, .int .i64 p.size, .int .i64 p.limit, .slice A0 p.left.length c0, .slice A1 p.right.length c1, .slice A2 p.lkeys.length c2, .slice A3 p.rkeys.length c3, .bool p.grouped, .slice A4 p.group.length c4, .slice A5 p.aggs.length c5] (.cells #[.int .i64 p.kind, .int .i64 p.mode, .int .i64 p.low, .int .i64 p.high, .int .i64 p.size, .int .i64 p.limit, .slice A0 p.left.length c0, .slice A1 p.right.length c1, .slice A2 p.lkeys.length c2, .slice A3 p.rkeys.length c3, .bool p.grouped, .slice A4 p.group.length c4, .slice A5 p.aggs.length c5] 25)) (below_trans (below_alloc w2 (.cells #[.int .i64 p.kind, .int .i64 p.mode, .int .i64 p.low, .int .i64 p.high, .int .i64 p.size, .int .i64 p.limit, .slice A0 p.left.length c0, .slice A1 p.right.length c1, .slice A2 p.lkeys.length c2, .slice A3 p.rkeys.length c3, .bool p.grouped, .slice A4 p.group.length c4, .slice A5 p.aggs.length c5] 25)) (below_alloc _ (.cells #[.int .i64 p.kind, .int .i64 p.mode, .int .i64 p.low, .int .i64 p.high, .int .i64 p.size, .int .i64 p.limit, .slice A0 p.left.length c0, .slice A1 p.right.length c1, .slice A2 p.lkeys.length c2, .slice A3 p.rkeys.length c3, .bool p.grouped, .slice A4 p.group.length c4, .slice A5 p.aggs.length c5] 25)))))
      go_region
      all_goals
        (go_wp2_with fail
         go_meet
         first
         | exact ⟨w2.heap.size, w2.heap.size + 1, rfl, rfl, Lib.hid ⟨HA.out.1, HA.out.2.1, HA.out.2.2.drew, Nat.le_refl _, Nat.le_succ _, by omega⟩⟩
         | exact ⟨w2.heap.size + 1, w2.heap.size, rfl, rfl, Lib.hid ⟨HA.out.2.1, HA.out.1, HA.out.2.2.drew, Nat.le_succ _, Nat.le_refl _, by omega⟩⟩)
    case' rest =>
      obtain ⟨b1, b2, rfl, rfl, HC⟩ := hcut
      obtain ⟨hK1, hK2, hb6, hg1, hg2, hne⟩ := HC.out
      clear z0 z1 z2 z3 z4 z5 z6 z7 z8 z9 z10 z11 z12
      have q1 := hK1.cell 1 _ rfl
      have q2 := hK2.cell 1 _ rfl
      have f1 := hK1.free 1
      have f2 := hK2.free 1
      have HP1 : Hid (Blk ((wc.setCell ⟨b1, 1, none⟩ (.int .i64 1)).setCell ⟨b2, 1, none⟩ (.int .i64 2)) b1 25 #[.int .i64 p.kind, .int .i64 1, .int .i64 p.low, .int .i64 p.high, .int .i64 p.size, .int .i64 p.limit, .slice A0 p.left.length c0, .slice A1 p.right.length c1, .slice A2 p.lkeys.length c2, .slice A3 p.rkeys.length c3, .bool p.grouped, .slice A4 p.group.length c4, .slice A5 p.aggs.length c5]) := Lib.hid ((hK1.set_ 1 (.int .i64 1)).far (p := ⟨b2, 1, none⟩) hne (.int .i64 2))
      have HP2 : Hid (Blk ((wc.setCell ⟨b1, 1, none⟩ (.int .i64 1)).setCell ⟨b2, 1, none⟩ (.int .i64 2)) b2 25 #[.int .i64 p.kind, .int .i64 2, .int .i64 p.low, .int .i64 p.high, .int .i64 p.size, .int .i64 p.limit, .slice A0 p.left.length c0, .slice A1 p.right.length c1, .slice A2 p.lkeys.length c2, .slice A3 p.rkeys.length c3, .bool p.grouped, .slice A4 p.group.length c4, .slice A5 p.aggs.length c5]) := Lib.hid ((hK2.far (p := ⟨b1, 1, none⟩) (fun e => hne e.symm) (.int .i64 1)).set_ 1 (.int .i64 2))
      have HBY := Lib.hid ((hb6.setCell (p := ⟨b1, 1, none⟩) hg1 (.int .i64 1)).setCell (p := ⟨b2, 1, none⟩) hg2 (.int .i64 2))
      have hne1 : ¬ b1 = b2 := hne
      have hne2 : ¬ b2 = b1 := fun e => hne e.symm
      clear hK1 hK2 HC
      go_upto_region 7 with fail
      obtain ⟨wy, hwy⟩ : ∃ V, ((wc.setCell ⟨b1, 1, none⟩ (.int .i64 1)).setCell ⟨b2, 1, none⟩ (.int .i64 2)) = V := ⟨_, rfl⟩
      rw [hwy] at HP1 HP2 HBY ⊢
      clear hwy q1 q2 f1 f2 hb6 hne1 hne2 hg1 hg2 hne
      have hy7 := below_trans hy2 HBY.out
      have hbw7 := below_trans hbw2 HBY.out
      have hz7 := HBY.out
      obtain ⟨z0, z1, z2, z3, z4, z5, z6, z7, z8, z9, z10, z11, z12⟩ := pl_cells HP1.out
      go_wp2_with fail
      refine Calls.mono (by with_reducible exact HI.out _ hbw7) ?_
      rintro e w8 ⟨v8, l8, rfl, hV8, ha8, hb8⟩
      have HV8 := Lib.hid hV8
      have HA8 := Lib.hid ha8
      obtain ⟨B8, n8, rfl, -⟩ := id hV8.sl
      have hbw8 := below_trans hbw7 hb8
      have hz8 := below_trans hz7 hb8
      clear z0 z1 z2 z3 z4 z5 z6 z7 z8 z9 z10 z11 z12 hV8 ha8
      obtain ⟨z0, z1, z2, z3, z4, z5, z6, z7, z8, z9, z10, z11, z12⟩ := pl_cells (HP2.out.below hb8)
      go_wp2_with fail
      refine Calls.mono (by with_reducible exact HO.out _ hbw8) ?_
      rintro e w9 ⟨v9, l9, rfl, hV9, ha9, hb9⟩
      have HV9 := Lib.hid hV9
      have HA9 := Lib.hid ha9
      obtain ⟨B9, n9, rfl, -⟩ := id hV9.sl
      have hbw9 := below_trans hbw8 hb9
      have hz9 := below_trans hz8 hb9
      have HGV : Hid (GoodA (av l2)) := Lib.hid (by rw [HAV.out]; exact HKW.out.all)
      have HGI : Hid (GoodA (av l8)) := Lib.hid (by rw [HA8.out]; exact HKW.out.inn)
      have HGO : Hid (GoodA (av l9)) := Lib.hid (by rw [HA9.out]; exact HKW.out.out)
      have HD := Lib.hid (cdiff_any (.slice B8 l8.length n8) (.slice Av l2.length cv) l8 l2 w9 (HV8.out.below hb9) (fineV_of HGI.out) (HV2.out.below hz9) (fineV_of HGV.out) (HM.out.below hbw9))
      have HDE : Hid (diffS l8 l2 = (tell (mergeD KA KV), 0)) := Lib.hid (by
        have h1 := diff_keeps HGI.out HGV.out (by rw [HA8.out, HAV.out]; exact HKW.out.few)
        rwa [HA8.out, HAV.out] at h1)
      rw [HDE.out] at HD
      clear z0 z1 z2 z3 z4 z5 z6 z7 z8 z9 z10 z11 z12 hV9 ha9 hb8 hb9 HDE HGI HGV
      go_wp2_with fail
      refine Calls.mono (by with_reducible exact HD.out) ?_
      rintro e w10 ⟨v10, m, rfl, hC, hac, hb10⟩
      have HC10 := Lib.hid hC
      have HIN : Hid (∀ x ∈ m, x.k = 1) := Lib.hid (fun x hx => HKW.out.ins (x.k, x.r) (by have h1 : (x.k, x.r) ∈ ac m := List.mem_map.2 ⟨x, hx, rfl⟩; rw [hac] at h1; exact h1))
      obtain ⟨B10, n10, rfl, nm, mm, -⟩ := id hC.sl
      unfold maxLen at mm
      have hbw10 := below_trans hbw9 hb10
      have hz10 := below_trans hz9 hb10
      have HV9 := Lib.hid (HV9.out.below hb10)
      clear hC hac hb10
      go_wp2_with fail
      go_loopw [17] (fun iv wr => ∃ i : Nat, i ≤ m.length ∧ iv = .int .i64 i ∧ Below w10.heap.size w10 wr) (fun iv _ => m.length - (intOf iv).toNat)
      case atStart => exact ⟨0, by omega, rfl, Below.refl _ _⟩
      case round =>
        rename World => wr
        obtain ⟨i, hi, rfl, hbr⟩ := hrel
        have i0 : (0 : Int) ≤ (i : Int) := by omega
        by_cases hlt : i < m.length
        · have hx := List.getElem?_eq_getElem (l := m) hlt
          generalize m[i] = x at hx
          have hx1 := HIN.out x (List.mem_of_getElem? hx)
          obtain ⟨bx, ox, hAx, -, hcx⟩ := chn_at HC10.out.sl rfl hx
          subst hAx
          have d1 := (hcx _ hbr).1
          rw [hx1] at d1
          have i1 : (i : Int) < (m.length : Int) := by omega
          clear hx hcx hx1
          go_wp2
          go_roundw
          case rel =>
            first
              | exact ⟨i + 1, by omega, by go_num, hbr⟩
              | ((repeat apply Exists.intro); exact ⟨⟨i + 1, by omega, by go_num, hbr⟩, rfl⟩)
          case measure => simp [intOf]; omega
        · obtain rfl : i = m.length := by omega
          have hq1 : ¬ (m.length : Int) < (m.length : Int) := by omega
          have hbw11 := below_trans hbw10 hbr
          have HV9 := Lib.hid (HV9.out.below hbr)
          have hyW : Below W1.heap.size W1 wr := below_trans hy2 (below_trans hz10 hbr)
          clear HC10 HIN HD nm mm
          go_wp2_with fail
          go_loopw [18, 19, 20, 21] (fun iv _ _ _ wr1 => ∃ i : Nat, i ≤ L.length ∧ iv = .int .i64 i ∧ Below wr.heap.size wr wr1) (fun iv _ _ _ _ => L.length - (intOf iv).toNat)
          case atStart => exact ⟨0, by omega, rfl, Below.refl _ _⟩
          case round =>
            rename World => wr1
            obtain ⟨i, hi, rfl, hbs⟩ := hrel
            have hB1 := below_trans hbw11 hbs
            have hfew := HFW2.out
            have i0 : (0 : Int) ≤ (i : Int) := by omega
            by_cases hlt : i < L.length
            · have hx := List.getElem?_eq_getElem (l := L) hlt
              generalize L[i] = x at hx
              have hxm := List.mem_of_getElem? hx
              have hxc : (x.k, x.r) ∈ ac L := List.mem_map.2 ⟨x, hxm, rfl⟩
              obtain ⟨b1, o1, hA1, -, hc1⟩ := chn_at HLC.out.sl rfl hx
              subst hA1
              obtain ⟨Ax, cx, ex, nx, mx, -⟩ := id (HLC.out.rows x hxm)
              rw [ex] at hc1
              have HCX := Lib.hid hc1
              have HSX : Hid (∀ (W : World) (hb : Below w.heap.size w W), Sl W (.slice Ax x.r.length cx) x.r.length (rowCells x.r)) := Lib.hid (fun W hb => by have := (HLC.out.rows x hxm).below hb; rwa [ex] at this)
              have HMO := Lib.hid (HKW.out.more (x.k, x.r) hxc)
              have HJU := Lib.hid (fun hk => HKW.out.just hk (x.k, x.r) hxc)
              have i1 : (i : Int) < (L.length : Int) := by omega
              have hAL : (some ⟨b1, o1, none⟩ : Option Addr) = some ⟨b1, o1, none⟩ := rfl
              clear hx hxm hxc hc1 ex
              go_wp2_with fail
              go_loopw [19, 20] (fun cm kv wr2 => ∃ k : Nat, k ≤ L.length ∧ kv = .int .i64 k ∧ cm = .int .i64 (cameN x.r ((ac L).take k)) ∧ Below wr1.heap.size wr1 wr2) (fun _ kv _ => L.length - (intOf kv).toNat)
              case atStart => exact ⟨0, by omega, rfl, rfl, Below.refl _ _⟩
              case round =>
                rename World => wr2
                have hfew := HFW2.out
                obtain ⟨k, hk, rfl, rfl, hb3⟩ := hrel
                have hB2 := below_trans hB1 hb3
                have k0 : (0 : Int) ≤ (k : Int) := by omega
                by_cases hlk : k < L.length
                · have hx := List.getElem?_eq_getElem (l := L) hlk
                  generalize L[k] = y at hx
                  have hym := List.mem_of_getElem? hx
                  obtain ⟨b3, o3, hA3, -, hc3⟩ := chn_at HLC.out.sl rfl hx
                  injection hA3 with hA3
                  injection hA3 with e1 e2
                  subst e1 e2
                  obtain ⟨Ay, cy, ey, ny, my, -⟩ := id (HLC.out.rows y hym)
                  rw [ey] at hc3
                  have HCY := Lib.hid hc3
                  have HSY : Hid (∀ (W : World) (hb : Below w.heap.size w W), Sl W (.slice Ay y.r.length cy) y.r.length (rowCells y.r)) := Lib.hid (fun W hb => by have := (HLC.out.rows y hym).below hb; rwa [ey] at this)
                  have hq4 : (ac L)[k]? = some (y.k, y.r) := by unfold ac; rw [List.getElem?_map, hx]; rfl
                  have HST := Lib.hid (came_step (r := x.r) hq4)
                  have HCF := Lib.hid (came_few x.r ((ac L).take k))
                  have HTL : Hid (((ac L).take k).length ≤ 1000) := Lib.hid (by rw [List.length_take]; have := HFW2.out; omega)
                  obtain ⟨C, hC⟩ : ∃ C, cameN x.r ((ac L).take k) = C := ⟨_, rfl⟩
                  rw [hC] at HST HCF ⊢
                  have k1 : (k : Int) < (L.length : Int) := by omega
                  have HSS := Lib.hid (fun w' (h : Below wr2.heap.size wr2 w') => And.intro ((HCX.out w' (below_trans hB2 h)).2) ((HCY.out w' (below_trans hB2 h)).2))
                  have hd0 : Below wr2.heap.size wr2 wr2.drew := (Below.refl _ wr2).drew
                  have hw : IntKind.i64.wrap (C + 1) = C + 1 := by have h1 := HCF.out; have h2 := HTL.out; rw [IntKind.wrap_i64]; omega
                  clear hx hym hc3 ey hq4 hC
                  have HSAM := Lib.hid (fun (W : World) (hb : Below w.heap.size w W) => same_any (.slice Ay y.r.length cy) (.slice Ax x.r.length cx) y.r x.r W (HSY.out W hb) (HSX.out W hb))
                  have HDE := Lib.hid (same_dec y.r x.r)
                  obtain ⟨Q, hQ⟩ : ∃ Q, sameR y.r x.r = Q := ⟨_, rfl⟩
                  rw [hQ] at HSAM HDE
                  clear hQ
                  go_upto_region 24 with fail
                  refine tr (S := (fun w' => w'.cell? ⟨b1, o1 + i * 2 + 1, none⟩ = some (.slice Ax x.r.length cx) ∧ w'.cell? ⟨b1, o1 + k * 2 + 1, none⟩ = some (.slice Ay y.r.length cy))) (HSS.out _ hd0) (fun hHeld => ?_)
                  refine tk 0 ?_; refine tk 1 ?_; refine tk 2 ?_; refine tk 3 ?_; refine tk 4 ?_; refine tk 5 ?_; refine tk 6 ?_; refine tk 7 ?_; refine tk 8 ?_; refine tk 9 ?_
                  refine tc 10 ?_
                  intro K hK
                  go_simp
                  refine Calls.mono (by with_reducible exact HSAM.out _ (below_trans hB2 hd0)) ?_
                  rintro e w4 ⟨rfl, hb4⟩
                  have hd4 := below_trans hd0 hb4
                  clear hb4
                  go_wp2_with fail
                  refine hK.out _ _ (HSS.out _ hd4) (fun hHeld10 => ?_)
                  clear hK K
                  refine td ?_
                  have HB4 := Lib.hid (below_trans hb3 hd4)
                  cases Q with
                  | true =>
                    have hs : y.r = x.r := of_decide_eq_true HDE.out.symm
                    have HS2 : Hid (cameN x.r ((ac L).take (k + 1)) = C + 1) := Lib.hid (by rw [HST.out, if_pos hs])
                    clear hs
                    go_wp2
                    go_roundw
                    case rel =>
                      first
                        | exact ⟨k + 1, by omega, by go_num, by rw [HS2.out], HB4.out⟩
                        | ((repeat apply Exists.intro); exact ⟨⟨k + 1, by omega, by go_num, by rw [HS2.out], HB4.out⟩, rfl⟩)
                    case measure => simp [intOf]; omega
                  | false =>
                    have hs : ¬ y.r = x.r := of_decide_eq_false HDE.out.symm
                    have HS2 : Hid (cameN x.r ((ac L).take (k + 1)) = C) := Lib.hid (by rw [HST.out, if_neg hs]; omega)
                    clear hs
                    go_wp2
                    go_roundw
                    case rel =>
                      first
                        | exact ⟨k + 1, by omega, by go_num, by rw [HS2.out], HB4.out⟩
                        | ((repeat apply Exists.intro); exact ⟨⟨k + 1, by omega, by go_num, by rw [HS2.out], HB4.out⟩, rfl⟩)
                    case measure => simp [intOf]; omega
                · obtain rfl : k = L.length := by omega
                  have hq3 : ¬ (L.length : Int) < (L.length : Int) := by omega
                  have HE : Hid ((ac L).take L.length = ac L) := Lib.hid (by rw [List.take_of_length_le]; unfold ac; rw [List.length_map]; exact Nat.le_refl _)
                  rw [HE.out]
                  obtain ⟨C, hC⟩ : ∃ C, cameN x.r (ac L) = C := ⟨_, rfl⟩
                  rw [hC] at HMO HJU ⊢
                  have HLP := Lib.hid (fun (W : World) (hb : Below wr.heap.size wr W) (hbw : Below w.heap.size w W) => leftParts_any (.slice B9 l9.length n9) (.slice Ax x.r.length cx) l9 x.r W (HV9.out.below hb) HGO.out (HSX.out W hbw))
                  rw [HA9.out] at HLP
                  obtain ⟨Q, hQ⟩ : ∃ Q, leftN x.r KB = Q := ⟨_, rfl⟩
                  rw [hQ] at HMO HJU HLP
                  clear hC hQ HE
                  have d2 := (HCX.out _ hB2).2
                  go_wp2_with fail
                  refine Calls.mono (by with_reducible exact HLP.out _ (below_trans hbs hb3) hB2) ?_
                  rintro e w12 ⟨rfl, hb12⟩
                  have HB5 := Lib.hid (below_trans hbs (below_trans hb3 hb12))
                  have hmo : ¬ Q < C := by have := HMO.out; omega
                  have z0 := (HK0.out.below (below_trans hyW HB5.out)).cell 0 _ rfl
                  by_cases hk : p.kind = 3
                  · have hq := beqT hk
                    have hqc : (Q != C) = false := by have := HJU.out hk; rw [this]; simp
                    clear hk
                    go_wp2
                    go_roundw
                    case rel =>
                      first
                        | exact ⟨i + 1, by omega, by go_num, HB5.out⟩
                        | ((repeat apply Exists.intro); exact ⟨⟨i + 1, by omega, by go_num, HB5.out⟩, rfl⟩)
                    case measure => simp [intOf]; omega
                  · have hq := beqF hk
                    clear hk
                    go_wp2
                    go_roundw
                    case rel =>
                      first
                        | exact ⟨i + 1, by omega, by go_num, HB5.out⟩
                        | ((repeat apply Exists.intro); exact ⟨⟨i + 1, by omega, by go_num, HB5.out⟩, rfl⟩)
                    case measure => simp [intOf]; omega
            · obtain rfl : i = L.length := by omega
              have hq3 : ¬ (L.length : Int) < (L.length : Int) := by omega
              go_wp2_with fail
              refine Calls.mono (by with_reducible exact HBG.out _ hB1) ?_
              rintro e w12 ⟨rfl, hb12⟩
              have HF := Lib.hid (below_trans hB1 hb12)
              go_wp2
              go_ret
              exact ⟨rfl, HF.out⟩
  · have hq := bneT hz
    clear hz HI HO HKA
    go_wp2_with fail
    refine Calls.mono (by with_reducible exact HBG.out _ hbw2) ?_
    rintro e w4 ⟨rfl, hb4⟩
    have HF := Lib.hid (below_trans hbw2 hb4)
    go_wp2
    go_ret
    exact ⟨rfl, HF.out⟩
end Go.Proofs.YtjhbeecmdgglgaaGreatDoor
