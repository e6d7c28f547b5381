/-
  Groups: the reference's RowOf. (Printed by gengrp21.py.) Groups: the reference's ViewOf. (Printed by gengrp22.py.)
-/
import Derived.Test.YtblhidmkalleoaaGreatDoorGrpA17
import Derived.Test.YtblhidmkalleoaaGreatDoorGrpA11
import Derived.Test.YtblhidmkalleoaaGreatDoorGrpA5
import Derived.Test.YtblhidmkalleoaaGreatDoorGrpA16
import Derived.Test.YtblhidmkalleoaaGreatDoorChg11
set_option linter.unusedSimpArgs false
set_option linter.unusedVariables false
namespace Go.Proofs.YtblhidmkalleoaaGreatDoor
open Go.RowKit

theorem ones_of {L : List Cnt} {bl : List Tl} (h : av L = bl.map fun x => ([x.v], x.n)) : Ones L (tls bl) := by
  have hl : L.length = bl.length := by have := congrArg List.length h; unfold av at this; rwa [List.length_map, List.length_map] at this
  refine ⟨by unfold tls; rw [List.length_map]; exact hl, fun k c hk => ?_⟩
  have h1 : (av L)[k]? = some (c.r, c.n) := by unfold av; rw [List.getElem?_map, hk]; rfl
  rw [h, List.getElem?_map] at h1
  cases hb : bl[k]? with
  | none => rw [hb] at h1; cases h1
  | some x =>
    rw [hb] at h1
    injection h1 with h1
    injection h1 with h2 h3
    exact ⟨x.v, h2.symm, by unfold tls; rw [List.getElem?_map, hb, ← h3]; rfl⟩

set_option maxHeartbeats 8000000 in
set_option maxRecDepth 10000 in
theorem rrow_any (p : Pl) (g : Gm) (w : World) (hpa : Sl w p.va p.aggs.length (aggCells p.aggs)) (hg : g.ok w) (hbl : g.bags.length = p.aggs.length) (h8 : g.r.length ≤ 8) (h4 : p.aggs.length ≤ 4) (hlb : ∀ q ∈ g.bags, q.2.length ≤ 1099511627776)
    (hfg : ∀ a q, (a, q) ∈ p.aggs.zip (g.bags.map (·.2)) → figG a.1 g.n q = if a.1 = 1 then ⟨2, g.n, ⟨#[]⟩⟩ else figF a.1 (tls q)) :
    Calls Tryz.prog 71 #[.agg #[.int .i64 p.kind, .int .i64 p.mode, .int .i64 p.low, .int .i64 p.high, .int .i64 p.size, .int .i64 p.limit, p.vl, p.vr, p.vk, p.vq, .bool p.grouped, p.vg, p.va], g.agg] w fun e w' => ∃ v', e = .returned v' ∧ w'.ownsRow (w.heap.size + 2) 112 3 v' (rowG p g.gp).length (rowCells (rowG p g.gp)) ∧ Below w.heap.size w w' := by
  have HPA := Lib.hid hpa
  have HG := Lib.hid hg
  have HFG0 := Lib.hid hfg
  have HCL := Lib.hid (fun W (h : Below w.heap.size w W) => copy_own g.v g.r W (hg.row.below h) (by omega))
  obtain ⟨Z, hZ⟩ : ∃ Z, rowG p g.gp = Z := ⟨_, rfl⟩
  have HZ : Hid (Z = g.r ++ (p.aggs.zip (g.bags.map (·.2))).map fun q => figG q.1.1 g.n q.2) := Lib.hid (by rw [← hZ]; rfl)
  rw [hZ]
  clear hZ
  obtain ⟨A5, c5, hva, n5, m5, -⟩ := id HPA.out
  obtain ⟨gv, gr, gn, gvb, gbags⟩ := g
  obtain ⟨Ar, cr, hv, nr, mr, -⟩ := id hg.row
  obtain ⟨Ab, cb, hvb, nb, mb, -⟩ := id hg.sl
  simp only at hv hvb nr nb hbl h8 HZ HFG0
  subst hv hvb
  unfold maxLen at m5 mr mb
  unfold Gm.agg
  rw [hva] at HPA ⊢
  clear hva hg hpa hfg
  simp only at HCL hlb ⊢
  have hB := below_trans (below_alloc w (.cells #[.int .i64 p.kind, .int .i64 p.mode, .int .i64 p.low, .int .i64 p.high, .int .i64 p.size, .int .i64 p.limit, p.vl, p.vr, p.vk, p.vq, .bool p.grouped, p.vg, .slice A5 p.aggs.length c5] 25)) (below_alloc _ (.cells #[.slice Ar gr.length cr, .int .i64 gn, .slice Ab gbags.length cb] 97))
  have K1 := new_second w 97 #[.slice Ar gr.length cr, .int .i64 gn, .slice Ab gbags.length cb] (.cells #[.int .i64 p.kind, .int .i64 p.mode, .int .i64 p.low, .int .i64 p.high, .int .i64 p.size, .int .i64 p.limit, p.vl, p.vr, p.vk, p.vq, .bool p.grouped, p.vg, .slice A5 p.aggs.length c5] 25)
  have K0 := (new_first w 25 #[.int .i64 p.kind, .int .i64 p.mode, .int .i64 p.low, .int .i64 p.high, .int .i64 p.size, .int .i64 p.limit, p.vl, p.vr, p.vk, p.vq, .bool p.grouped, p.vg, .slice A5 p.aggs.length c5] (.cells #[.slice Ar gr.length cr, .int .i64 gn, .slice Ab gbags.length cb] 97))
  have HBL := Lib.hid hbl
  have HLB := Lib.hid hlb
  clear hbl hlb
  go_enter Tryz.func71, Tryz.ntmps71
  go_wp2_with fail
  refine Calls.mono (by with_reducible exact HCL.out _ hB) ?_
  rintro e w1 ⟨v1, rfl, hown1, hb1⟩
  have hbw := below_trans hB hb1
  have HOW := Lib.hid hown1
  simp only [World.size_alloc] at HOW
  have HL1 := Lib.hid (K1.below hb1)
  have HL0 := Lib.hid (K0.below hb1)
  have hs1 : w.heap.size + 2 ≤ w1.heap.size := by have := hb1.size; simp at this; omega
  clear hown1 hB hb1 K1 K0 HCL
  go_wp2_with fail
  go_loopw [5, 6] (fun ov i wr => ∃ k : Nat, k ≤ p.aggs.length ∧ i = .int .i64 k ∧ Hid (wr.ownsRow (w.heap.size + 2) 112 3 ov (gr.length + k) (rowCells (gr ++ ((p.aggs.zip (gbags.map (·.2))).take k).map fun q => figG q.1.1 gn q.2))) ∧ Hid (Blk wr (w.heap.size + 1) 97 #[.slice Ar gr.length cr, .int .i64 gn, .slice Ab gbags.length cb]) ∧ Hid (Blk wr w.heap.size 25 #[.int .i64 p.kind, .int .i64 p.mode, .int .i64 p.low, .int .i64 p.high, .int .i64 p.size, .int .i64 p.limit, p.vl, p.vr, p.vk, p.vq, .bool p.grouped, p.vg, .slice A5 p.aggs.length c5]) ∧ w.heap.size + 2 ≤ wr.heap.size ∧ Below w.heap.size w wr) (fun _ i _ => p.aggs.length - (intOf i).toNat)
  case atStart => exact ⟨0, by omega, rfl, Lib.hid (by simpa using HOW.out), HL1, HL0, hs1, hbw⟩
  case round =>
    rename World => wr1
    clear HL1 HL0 HOW hs1 hbw
    obtain ⟨k, hk, rfl, HO, HKG, HKP, hsr, hbr⟩ := hrel
    have y12 := HKP.out.cell 12 _ rfl
    by_cases hlt : k < p.aggs.length
    · have hx := List.getElem?_eq_getElem (l := p.aggs) hlt
      generalize p.aggs[k] = x at hx
      obtain ⟨b5, o5, hA5, -, hc5⟩ := agg_at HPA.out rfl hx
      subst hA5
      obtain ⟨d1, -⟩ := hc5 _ hbr
      have hlt2 : k < gbags.length := by have := HBL.out; omega
      have hq := List.getElem?_eq_getElem (l := gbags) hlt2
      generalize gbags[k] = q at hq
      obtain ⟨bb, ob, hAb, hbb, hcb⟩ := cellv_at HG.out.sl rfl hq
      subst hAb
      have hz := zip_at (m := gbags.map (·.2)) hx (by rw [List.getElem?_map, hq]; rfl)
      have HZQ := Lib.hid (map_step (f := fun q : (Int × Int) × List Tl => figG q.1.1 gn q.2) hz)
      have HFE := Lib.hid (HFG0.out _ _ (List.mem_of_getElem? hz))
      have HBQ := Lib.hid (HG.out.bags q (List.mem_of_getElem? hq))
      have HLQ := Lib.hid (HLB.out q (List.mem_of_getElem? hq))
      obtain ⟨fn, col⟩ := x
      obtain ⟨bv, bl⟩ := q
      simp only at d1 hcb HZQ HFE HBQ HLQ
      have HCB := Lib.hid hcb
      have HC5 := Lib.hid hc5
      obtain ⟨Bq, kq, eq, nq, mq, -⟩ := id HBQ.out
      subst eq
      unfold maxLen at mq
      obtain ⟨F, hF⟩ : ∃ F, figG fn gn bl = F := ⟨_, rfl⟩
      rw [hF] at HZQ HFE
      have Q1 : Hid (gr.length + k + 1 ≤ maxLen) := Lib.hid (by unfold maxLen; omega)
      have Q2 : Hid ((gr.length + k + 1) * 32 ≤ 140737488355328) := Lib.hid (by omega)
      have k1' : (k : Int) < (gbags.length : Int) := by omega
      have k2' : (k : Int) < (p.aggs.length : Int) := by omega
      have k0' : (0 : Int) ≤ (k : Int) := by omega
      have HBB := Lib.hid hbb
      clear hx hq hlt2 hz hF hcb hbb
      by_cases hfn : fn = 1
      · have q1 := beqT hfn
        have HFX : Hid (F = ⟨2, gn, ⟨#[]⟩⟩) := Lib.hid (HFE.out.trans (if_pos hfn))
        have z1 := HKG.out.cell 1 _ rfl
        have HOX := Lib.hid (HO.out.alloc (.cells #[.int .i64 2, .int .i64 gn, .string ⟨#[]⟩] 112))
        have HBX := Lib.hid (hbr.alloc hbr.size (.cells #[.int .i64 2, .int .i64 gn, .string ⟨#[]⟩] 112))
        have HKX := Lib.hid (HKG.out.alloc (.cells #[.int .i64 2, .int .i64 gn, .string ⟨#[]⟩] 112))
        have HPX := Lib.hid (HKP.out.alloc (.cells #[.int .i64 2, .int .i64 gn, .string ⟨#[]⟩] 112))
        have HVX := Lib.hid (Sl.block (Blk.new wr1 112 #[.int .i64 2, .int .i64 gn, .string ⟨#[]⟩]) 1 1 (Nat.le_refl _) (by decide))
        clear hfn HO HKG
        go_wp2_with (at_builtin; refine wpList_app rfl (.tmp 26) (.tmp 30) 61 rfl (w.heap.size + 2) 112 3 32 Tryz.underlying61 valJ u5 (gr.length + k) _ rfl HOX.out _ 1 [.int .i64 2, .int .i64 gn, .string ⟨#[]⟩] rfl HVX.out rfl (by simp [Value.oneCell']) Q1.out Q2.out (by simp; omega) ?_)
        intro v4 w4 hown4 hg3 hat4
        have H5 : Hid (w4.ownsRow (w.heap.size + 2) 112 3 v4 (gr.length + (k + 1)) (rowCells (gr ++ ((p.aggs.zip (gbags.map (·.2))).take (k + 1)).map fun q => figG q.1.1 gn q.2))) := Lib.hid (by
          rw [HZQ.out, ← List.append_assoc, rcApp, rowCells_one1, HFX.out]
          simp only [List.map_take] at hown4 ⊢
          exact hown4)
        have hne := fun j hj => own_ge HOX.out j hj
        have hb5 := below_grown HBX.out hg3 (fun j hj => by have := hne j hj; omega)
        have hs5 : w.heap.size + 2 ≤ w4.heap.size := by have h1 := hg3.size; simp at h1; omega
        have KG5 := Lib.hid (HKX.out.grown hg3 (fun e => by have := hne _ e; omega))
        have KP5 := Lib.hid (HPX.out.grown hg3 (fun e => by have := hne _ e; omega))
        clear hown4 hg3 hat4 hne
        go_wp2
        go_roundw
        case rel =>
          first
            | exact ⟨k + 1, by omega, by go_num, H5, KG5, KP5, hs5, hb5⟩
            | ((repeat apply Exists.intro); exact ⟨⟨k + 1, by omega, by go_num, H5, KG5, KP5, hs5, hb5⟩, rfl⟩)
        case measure => simp [intOf]; omega
      · have q1 := beqF hfn
        have HFX : Hid (F = figF fn (tls bl)) := Lib.hid (HFE.out.trans (if_neg hfn))
        have hbw1 := hbr.size
        clear hfn
        go_wp2_with fail
        go_loopw [7, 8] (fun vv i wr => ∃ (j : Nat) (L : List Cnt), j ≤ bl.length ∧ i = .int .i64 j ∧ L.length = j ∧ Hid (OwnV wr wr1.heap.size vv L) ∧ Hid (av L = (bl.take j).map fun x => ([x.v], x.n)) ∧ Below wr1.heap.size wr1 wr) (fun _ i _ => bl.length - (intOf i).toNat)
        case atStart => exact ⟨0, [], by omega, rfl, rfl, Lib.hid (OwnV.nil _ _), Lib.hid rfl, Below.refl _ _⟩
        case round =>
          rename World => wr2
          obtain ⟨j, L, hj, rfl, hL, HV, HA, hb2⟩ := hrel
          have hBr := below_trans hbr hb2
          have HKG2 := Lib.hid (HKG.out.below hb2)
          have z2 := HKG2.out.cell 2 _ rfl
          have z3 := HCB.out _ hBr
          by_cases hlj : j < bl.length
          · have hy := List.getElem?_eq_getElem (l := bl) hlj
            generalize bl[j] = y at hy
            obtain ⟨bt, ot, hBq, hbt, hct⟩ := tl_at HBQ.out rfl hy
            subst hBq
            have HYS := Lib.hid (map_step (f := fun x : Tl => ([x.v], x.n)) hy)
            obtain ⟨⟨yk, yn, ys⟩, yc⟩ := y
            simp only at hct HYS
            have HCT := Lib.hid hct
            have HBT := Lib.hid hbt
            have HSS := Lib.hid (fun w' (h : Below wr2.heap.size wr2 w') => And.intro ((HKG2.out.below h).cell 2 _ rfl) (And.intro (HCB.out w' (below_trans hBr h)) (And.intro ((HCT.out w' (below_trans hBr h)).1) (And.intro ((HCT.out w' (below_trans hBr h)).2.1) (And.intro ((HCT.out w' (below_trans hBr h)).2.2.1) ((HCT.out w' (below_trans hBr h)).2.2.2))))))
            have hy0 : Below wr2.heap.size wr2 wr2.drew := (Below.refl _ wr2).drew
            have j1' : (j : Int) < (bl.length : Int) := by omega
            have j0' : (0 : Int) ≤ (j : Int) := by omega
            have HVX := Lib.hid (HV.out.below (show Below wr2.heap.size wr2 ((wr2.alloc (.cells #[.int .i64 yk, .int .i64 yn, .string ys] 112)).alloc (.cells #[.slice (some ⟨wr2.heap.size, 0, none⟩) 1 1, .int .i64 yc] 115)).drew from (below_trans (below_alloc _ _) (below_alloc _ _)).drew))
            have HBX := Lib.hid (show Below wr2.heap.size wr2 ((wr2.alloc (.cells #[.int .i64 yk, .int .i64 yn, .string ys] 112)).alloc (.cells #[.slice (some ⟨wr2.heap.size, 0, none⟩) 1 1, .int .i64 yc] 115)).drew from (below_trans (below_alloc _ _) (below_alloc _ _)).drew)
            have HR1 := Lib.hid (show Sl ((wr2.alloc (.cells #[.int .i64 yk, .int .i64 yn, .string ys] 112)).alloc (.cells #[.slice (some ⟨wr2.heap.size, 0, none⟩) 1 1, .int .i64 yc] 115)).drew (.slice (some ⟨wr2.heap.size, 0, none⟩) 1 1) 1 (rowCells [(⟨yk, yn, ys⟩ : Val)]) from (Sl.block (new_first wr2 112 #[.int .i64 yk, .int .i64 yn, .string ys] (.cells #[.slice (some ⟨wr2.heap.size, 0, none⟩) 1 1, .int .i64 yc] 115)) 1 1 (Nat.le_refl _) (by decide)).drew)
            have HC1 := Lib.hid (show Sl ((wr2.alloc (.cells #[.int .i64 yk, .int .i64 yn, .string ys] 112)).alloc (.cells #[.slice (some ⟨wr2.heap.size, 0, none⟩) 1 1, .int .i64 yc] 115)).drew (.slice (some ⟨wr2.heap.size + 1, 0, none⟩) 1 1) 1 [.slice (some ⟨wr2.heap.size, 0, none⟩) 1 1, .int .i64 yc] from (Sl.block (new_second wr2 115 #[.slice (some ⟨wr2.heap.size, 0, none⟩) 1 1, .int .i64 yc] (.cells #[.int .i64 yk, .int .i64 yn, .string ys] 112)) 1 1 (Nat.le_refl _) (by decide)).drew)
            have hszx : (((wr2.alloc (.cells #[.int .i64 yk, .int .i64 yn, .string ys] 112)).alloc (.cells #[.slice (some ⟨wr2.heap.size, 0, none⟩) 1 1, .int .i64 yc] 115)).drew).heap.size = wr2.heap.size + 1 + 1 := by rw [World.size_drew, World.size_alloc, World.size_alloc]
            have HSZ := Lib.hid hszx
            have Q3 : Hid (L.length + 1 ≤ maxLen) := Lib.hid (by have := HLQ.out; unfold maxLen; omega)
            have Q4 : Hid ((L.length + 1) * 32 ≤ 140737488355328) := Lib.hid (by have := HLQ.out; omega)
            clear hy hct hbt hszx
            go_upto_region 11 with fail
            refine tr (S := (fun w' => w'.cell? ⟨w.heap.size + 1, 2, none⟩ = some (.slice (some ⟨bb, ob, none⟩) gbags.length cb) ∧ w'.cell? ⟨bb, ob + k, none⟩ = some (.slice (some ⟨bt, ot, none⟩) bl.length kq) ∧ w'.cell? ⟨bt, ot + j * 4, none⟩ = some (.int .i64 yk) ∧ w'.cell? ⟨bt, ot + j * 4 + 1, none⟩ = some (.int .i64 yn) ∧ w'.cell? ⟨bt, ot + j * 4 + 2, none⟩ = some (.string ys) ∧ w'.cell? ⟨bt, ot + j * 4 + 3, none⟩ = some (.int .i64 yc))) (HSS.out _ hy0) (fun hHeld => ?_)
            refine tk 0 ?_; refine tk 1 ?_; refine tk 2 ?_; refine tk 3 ?_; refine tk 4 ?_; refine tk 5 ?_; refine tk 6 ?_; refine tk 7 ?_; refine tk 8 ?_; refine tk 9 ?_; refine tk 11 ?_; refine tk 12 ?_
            refine tk 13 ?_; refine tk 14 ?_; refine tk 15 ?_; refine tk 16 ?_; refine tk 17 ?_; refine tk 18 ?_; refine tk 19 ?_
            refine tc 10 ?_
            intro K hK
            go_simp
            refine hK.out _ _ (HSS.out _ (below_alloc wr2 (.cells #[.int .i64 yk, .int .i64 yn, .string ys] 112)).drew) (fun hHeld10 => ?_)
            clear hK K
            refine tk 20 ?_
            refine tc 21 ?_
            intro K hK
            go_simp
            refine hK.out _ _ (HSS.out _ HBX.out) (fun hHeld21 => ?_)
            clear hK K
            refine tc 22 ?_
            intro K hK
            refine step_app (by rfl) _ _ 27 (by rfl) wr1.heap.size 115 2 32 Tryz.underlying27 cntI u7 L.length _ (by rfl) HVX.out.own _ 1 [.slice (some ⟨wr2.heap.size, 0, none⟩) 1 1, .int .i64 yc] (by rfl) HC1.out rfl (by simp [Value.oneCell']) Q3.out Q4.out (by have h1 := hb2.size; have h2 := HSZ.out; omega) ?_
            intro v5 w5 hown5 hg5 hat5
            have HVN := Lib.hid (HVX.out.snoc (c := ⟨.slice (some ⟨wr2.heap.size, 0, none⟩) 1 1, [⟨yk, yn, ys⟩], yc⟩) hown5 hg5 (by simpa using hat5) HR1.out (fun i hi => by
              have e : wr2.heap.size = i := by injection hi
              subst e
              exact ⟨by have := HSZ.out; omega, fun e => by have := own_lt HV.out.own _ e; omega⟩))
            have HAN : Hid (av (L ++ [⟨.slice (some ⟨wr2.heap.size, 0, none⟩) 1 1, [⟨yk, yn, ys⟩], yc⟩]) = (bl.take (j + 1)).map fun x => ([x.v], x.n)) := Lib.hid (by rw [HYS.out, ← HA.out]; exact List.map_append)
            have HBN := (below_trans hb2 HBX.out).grown hg5 (below_trans hb2 HBX.out).size (fun i hi => own_ge HVX.out.own i hi)
            have HBW := below_trans hbr HBN
            have KGN := HKG.out.below HBN
            refine hK.out _ _ (And.intro (KGN.cell 2 _ rfl) (And.intro (HCB.out _ HBW) (And.intro ((HCT.out _ HBW).1) (And.intro ((HCT.out _ HBW).2.1) (And.intro ((HCT.out _ HBW).2.2.1) ((HCT.out _ HBW).2.2.2)))))) (fun hHeld22 => ?_)
            clear hK K
            refine tk 23 ?_
            refine td ?_
            go_wp2
            go_roundw
            case rel =>
              first
                | exact ⟨j + 1, _, by omega, by go_num, by rw [List.length_append, hL]; rfl, HVN, HAN, HBN⟩
                | ((repeat apply Exists.intro); exact ⟨⟨j + 1, _, by omega, by go_num, by rw [List.length_append, hL]; rfl, HVN, HAN, HBN⟩, rfl⟩)
            case measure => simp [intOf]; omega
          · obtain rfl : j = bl.length := by omega
            have hq1 : ¬ (bl.length : Int) < (bl.length : Int) := by omega
            have HA2 : Hid (av L = bl.map fun x => ([x.v], x.n)) := Lib.hid (by have := HA.out; rwa [List.take_length] at this)
            obtain ⟨Al, nl, cl, rfl⟩ := own_slice HV.out.own
            have hfc := Lib.hid (rfigure_any fn _ L (tls bl) wr2 HV.out.view (ones_of HA2.out))
            rw [← HFX.out] at hfc
            have d1' := (HC5.out _ hBr).1
            have y12' := (HKP.out.below hb2).cell 12 _ rfl
            clear HA HA2 HV
            go_wp2_with fail
            refine Calls.mono (by with_reducible exact hfc.out) ?_
            rintro e w3 ⟨rfl, hb3⟩
            have hB3 := below_trans hb2 hb3
            have HBX := Lib.hid ((below_trans hbr hB3).alloc (below_trans hbr hB3).size (.cells #[.int .i64 F.k, .int .i64 F.n, .string F.s] 112))
            have HOX := Lib.hid ((own_below HO.out hB3).alloc (.cells #[.int .i64 F.k, .int .i64 F.n, .string F.s] 112))
            have HKX := Lib.hid ((HKG.out.below hB3).alloc (.cells #[.int .i64 F.k, .int .i64 F.n, .string F.s] 112))
            have HPX := Lib.hid ((HKP.out.below hB3).alloc (.cells #[.int .i64 F.k, .int .i64 F.n, .string F.s] 112))
            have HVX := Lib.hid (Sl.block (Blk.new w3 112 #[.int .i64 F.k, .int .i64 F.n, .string F.s]) 1 1 (Nat.le_refl _) (by decide))
            have hs3 := hB3.size
            clear HO HKG hfc HFX
            go_wp2_with (at_builtin; refine wpList_app rfl (.tmp 65) (.tmp 75) 61 rfl (w.heap.size + 2) 112 3 32 Tryz.underlying61 valJ u5 (gr.length + k) _ rfl HOX.out _ 1 [.int .i64 F.k, .int .i64 F.n, .string F.s] rfl HVX.out rfl (by simp [Value.oneCell']) Q1.out Q2.out (by simp; omega) ?_)
            intro v4 w4 hown4 hg3 hat4
            have H5 : Hid (w4.ownsRow (w.heap.size + 2) 112 3 v4 (gr.length + (k + 1)) (rowCells (gr ++ ((p.aggs.zip (gbags.map (·.2))).take (k + 1)).map fun q => figG q.1.1 gn q.2))) := Lib.hid (by
              rw [HZQ.out, ← List.append_assoc, rcApp, rowCells_one1]
              simp only [List.map_take] at hown4 ⊢
              exact hown4)
            have hne := fun j hj => own_ge HOX.out j hj
            have hb5 := below_grown HBX.out hg3 (fun j hj => by have := hne j hj; omega)
            have hs5 : w.heap.size + 2 ≤ w4.heap.size := by have h1 := hg3.size; simp at h1; omega
            have KG5 := Lib.hid (HKX.out.grown hg3 (fun e => by have := hne _ e; omega))
            have KP5 := Lib.hid (HPX.out.grown hg3 (fun e => by have := hne _ e; omega))
            clear hown4 hg3 hat4 hne
            go_wp2
            go_roundw
            case rel =>
              first
                | exact ⟨k + 1, by omega, by go_num, H5, KG5, KP5, hs5, hb5⟩
                | ((repeat apply Exists.intro); exact ⟨⟨k + 1, by omega, by go_num, H5, KG5, KP5, hs5, hb5⟩, rfl⟩)
            case measure => simp [intOf]; omega
    · obtain rfl : k = p.aggs.length := by omega
      have hq1 : ¬ (p.aggs.length : Int) < (p.aggs.length : Int) := by omega
      have HZE : Hid ((p.aggs.zip (gbags.map (·.2))).take p.aggs.length = p.aggs.zip (gbags.map (·.2))) := Lib.hid (List.take_of_length_le (by rw [List.length_zip]; omega))
      rw [HZE.out, ← HZ.out] at HO
      have hZL : Z.length = gr.length + p.aggs.length := by have := HBL.out; rw [HZ.out, List.length_append, List.length_map, List.length_zip, List.length_map]; omega
      have HO2 := Lib.hid (show wr1.ownsRow (w.heap.size + 2) 112 3 u5 Z.length (rowCells Z) from by rw [hZL]; exact HO.out)
      clear hZL HO
      go_wp2
      go_ret
      exact ⟨_, rfl, HO2.out, hbr⟩
end Go.Proofs.YtblhidmkalleoaaGreatDoor
namespace Go.Proofs.YtblhidmkalleoaaGreatDoor
open Go.RowKit

set_option maxHeartbeats 8000000 in
set_option maxRecDepth 10000 in
theorem rview_any (p : Pl) (v : Value) (G : List Gm) (w : World) (h : p.ok w) (hG : Gms w v G) (hz : checkP p = 0) (hgr : p.grouped = true) (hgd : GoodGs p (gps G)) :
    Calls Tryz.prog 20 #[.agg #[.int .i64 p.kind, .int .i64 p.mode, .int .i64 p.low, .int .i64 p.high, .int .i64 p.size, .int .i64 p.limit, p.vl, p.vr, p.vk, p.vq, .bool p.grouped, p.vg, p.va], v] w fun e w' => ∃ v' l', e = .returned v' ∧ View w' v' l' ∧ av l' = viewG p (gps G) ∧ Below w.heap.size w w' := by
  have HGS := Lib.hid hG
  have HGD := Lib.hid hgd
  have HZR := Lib.hid (fun (x : Gm) (hx : x ∈ G) => row_good hz hgr (hgd.each x.gp (gps_mem hx)))
  have HRW := Lib.hid (fun W (hb : Below w.heap.size w W) (x : Gm) (hx : x ∈ G) => let q := hgd.each x.gp (gps_mem hx); let y := gm_fit_len q; rrow_any p x W (h.below hb).a ((hG.each x hx).below hb) y.1 y.2.1 (group_few hz hgr).2.2 y.2.2 (figs_good hz hgr q))
  unfold Gm.agg at HRW
  obtain ⟨A0, c0, h0, -⟩ := h.l
  obtain ⟨A1, c1, h1, -⟩ := h.r
  obtain ⟨A2, c2, h2, -⟩ := h.k
  obtain ⟨A3, c3, h3, -⟩ := h.q
  obtain ⟨A4, c4, h4, -⟩ := h.g
  obtain ⟨A5, c5, h5, -⟩ := h.a
  rw [h0, h1, h2, h3, h4, h5] at HRW ⊢
  have hfew : G.length ≤ 4096 := by have := hgd.few; rwa [gps_len] at this
  clear h hG hgd hz hgr h0 h1 h2 h3 h4 h5
  obtain ⟨Av, cv, rfl, nv, mv, -⟩ := id HGS.out.sl
  have hB := below_alloc w (.cells #[.int .i64 p.kind, .int .i64 p.mode, .int .i64 p.low, .int .i64 p.high, .int .i64 p.size, .int .i64 p.limit, .slice A0 p.left.length c0, .slice A1 p.right.length c1, .slice A2 p.lkeys.length c2, .slice A3 p.rkeys.length c3, .bool p.grouped, .slice A4 p.group.length c4, .slice A5 p.aggs.length c5] 25)
  have HK0 := Lib.hid (Blk.new w 25 #[.int .i64 p.kind, .int .i64 p.mode, .int .i64 p.low, .int .i64 p.high, .int .i64 p.size, .int .i64 p.limit, .slice A0 p.left.length c0, .slice A1 p.right.length c1, .slice A2 p.lkeys.length c2, .slice A3 p.rkeys.length c3, .bool p.grouped, .slice A4 p.group.length c4, .slice A5 p.aggs.length c5])
  go_enter Tryz.func20, Tryz.ntmps20
  go_wp2_with fail
  go_loopw [5, 6] (fun ov iv wr => ∃ (k : Nat) (L : List Cnt), k ≤ G.length ∧ iv = .int .i64 k ∧ Hid (OwnV wr (w.alloc (.cells #[.int .i64 p.kind, .int .i64 p.mode, .int .i64 p.low, .int .i64 p.high, .int .i64 p.size, .int .i64 p.limit, .slice A0 p.left.length c0, .slice A1 p.right.length c1, .slice A2 p.lkeys.length c2, .slice A3 p.rkeys.length c3, .bool p.grouped, .slice A4 p.group.length c4, .slice A5 p.aggs.length c5] 25)).heap.size ov L) ∧ Hid (VA p (gps G) k (av L)) ∧ Below (w.alloc (.cells #[.int .i64 p.kind, .int .i64 p.mode, .int .i64 p.low, .int .i64 p.high, .int .i64 p.size, .int .i64 p.limit, .slice A0 p.left.length c0, .slice A1 p.right.length c1, .slice A2 p.lkeys.length c2, .slice A3 p.rkeys.length c3, .bool p.grouped, .slice A4 p.group.length c4, .slice A5 p.aggs.length c5] 25)).heap.size (w.alloc (.cells #[.int .i64 p.kind, .int .i64 p.mode, .int .i64 p.low, .int .i64 p.high, .int .i64 p.size, .int .i64 p.limit, .slice A0 p.left.length c0, .slice A1 p.right.length c1, .slice A2 p.lkeys.length c2, .slice A3 p.rkeys.length c3, .bool p.grouped, .slice A4 p.group.length c4, .slice A5 p.aggs.length c5] 25)) wr) (fun _ iv _ => G.length - (intOf iv).toNat)
  case atStart => exact ⟨0, [], by omega, rfl, Lib.hid (OwnV.nil _ _), Lib.hid (VA.start _ _), Below.refl _ _⟩
  case round =>
    rename World => wr1
    obtain ⟨k, L, hk, rfl, HV, HVA, hbr⟩ := hrel
    have hBr := below_trans hB hbr
    by_cases hlt : k < G.length
    · have hx := List.getElem?_eq_getElem (l := G) hlt
      generalize G[k] = x at hx
      obtain ⟨bb, ob, hAv, -, hcb⟩ := gm_at HGS.out.sl rfl hx
      subst hAv
      have hxm := List.mem_of_getElem? hx
      have HZG := Lib.hid (HZR.out x hxm)
      have HRX := Lib.hid (fun W hb => HRW.out W hb x hxm)
      have HVS := Lib.hid (HVA.out.step (by omega) (gps_at hx) HZG.out)
      obtain ⟨Ax, kx, ex, -⟩ := id (HGS.out.each x hxm).row
      obtain ⟨Dx, jx, fx, -⟩ := id (HGS.out.each x hxm).sl
      obtain ⟨xv, xr, xn, xvb, xbags⟩ := x
      have HCB := Lib.hid hcb
      simp only at ex fx HCB HRX
      subst ex fx
      obtain ⟨Z, hZ⟩ : ∃ Z, rowG p (Gm.gp ⟨.slice Ax xr.length kx, xr, xn, .slice Dx xbags.length jx, xbags⟩) = Z := ⟨_, rfl⟩
      rw [hZ] at HRX HZG HVS
      have HLL : Hid (L.length ≤ k) := Lib.hid (by have := HVA.out.len; unfold av at this; rwa [List.length_map] at this)
      have HKP := Lib.hid (HK0.out.below hbr)
      have HSS := Lib.hid (fun w' (h : Below wr1.heap.size wr1 w') => And.intro ((HKP.out.below h).cell 0 _ rfl) (And.intro ((HKP.out.below h).cell 1 _ rfl) (And.intro ((HKP.out.below h).cell 2 _ rfl) (And.intro ((HKP.out.below h).cell 3 _ rfl) (And.intro ((HKP.out.below h).cell 4 _ rfl) (And.intro ((HKP.out.below h).cell 5 _ rfl) (And.intro ((HKP.out.below h).cell 6 _ rfl) (And.intro ((HKP.out.below h).cell 7 _ rfl) (And.intro ((HKP.out.below h).cell 8 _ rfl) (And.intro ((HKP.out.below h).cell 9 _ rfl) (And.intro ((HKP.out.below h).cell 10 _ rfl) (And.intro ((HKP.out.below h).cell 11 _ rfl) (And.intro ((HKP.out.below h).cell 12 _ rfl) (And.intro ((HCB.out w' (below_trans hBr h)).1) (And.intro ((HCB.out w' (below_trans hBr h)).2.1) ((HCB.out w' (below_trans hBr h)).2.2))))))))))))))))
      have hy0 : Below wr1.heap.size wr1 wr1.drew := (Below.refl _ wr1).drew
      have i0 : (0 : Int) ≤ (k : Int) := by omega
      have i1 : (k : Int) < (G.length : Int) := by omega
      clear hx hxm hcb hZ
      go_upto_region 5 with fail
      refine tr (S := (fun w' => w'.cell? ⟨w.heap.size, 0, none⟩ = some (.int .i64 p.kind) ∧ w'.cell? ⟨w.heap.size, 1, none⟩ = some (.int .i64 p.mode) ∧ w'.cell? ⟨w.heap.size, 2, none⟩ = some (.int .i64 p.low) ∧ w'.cell? ⟨w.heap.size, 3, none⟩ = some (.int .i64 p.high) ∧ w'.cell? ⟨w.heap.size, 4, none⟩ = some (.int .i64 p.size) ∧ w'.cell? ⟨w.heap.size, 5, none⟩ = some (.int .i64 p.limit) ∧ w'.cell? ⟨w.heap.size, 6, none⟩ = some (.slice A0 p.left.length c0) ∧ w'.cell? ⟨w.heap.size, 7, none⟩ = some (.slice A1 p.right.length c1) ∧ w'.cell? ⟨w.heap.size, 8, none⟩ = some (.slice A2 p.lkeys.length c2) ∧ w'.cell? ⟨w.heap.size, 9, none⟩ = some (.slice A3 p.rkeys.length c3) ∧ w'.cell? ⟨w.heap.size, 10, none⟩ = some (.bool p.grouped) ∧ w'.cell? ⟨w.heap.size, 11, none⟩ = some (.slice A4 p.group.length c4) ∧ w'.cell? ⟨w.heap.size, 12, none⟩ = some (.slice A5 p.aggs.length c5) ∧ w'.cell? ⟨bb, ob + k * 3, none⟩ = some (.slice Ax xr.length kx) ∧ w'.cell? ⟨bb, ob + k * 3 + 1, none⟩ = some (.int .i64 xn) ∧ w'.cell? ⟨bb, ob + k * 3 + 2, none⟩ = some (.slice Dx xbags.length jx))) (HSS.out _ hy0) (fun hHeld => ?_)
      refine tk 0 ?_; refine tk 1 ?_; refine tk 2 ?_; refine tk 3 ?_; refine tk 4 ?_; refine tk 5 ?_
      refine tc 6 ?_
      intro K hK
      go_simp
      refine Calls.mono (by with_reducible exact HRX.out _ (below_trans hBr hy0)) ?_
      rintro e w4 ⟨v4, rfl, hown4, hb4⟩
      have hyw4 := below_trans hy0 hb4
      obtain ⟨E4, f4, g4, rfl⟩ := own_slice hown4
      have HO4 := Lib.hid hown4
      clear hown4 hb4
      go_wp2_with fail
      refine hK.out _ _ (HSS.out _ hyw4) (fun hHeld6 => ?_)
      clear hK K
      refine tc 7 ?_
      intro K hK
      have HV4 := Lib.hid (HV.out.below hyw4)
      have HMORE := Lib.hid (more_own_any u5 (.slice E4 f4 g4) L Z 1 (w.alloc (.cells #[.int .i64 p.kind, .int .i64 p.mode, .int .i64 p.low, .int .i64 p.high, .int .i64 p.size, .int .i64 p.limit, .slice A0 p.left.length c0, .slice A1 p.right.length c1, .slice A2 p.lkeys.length c2, .slice A3 p.rkeys.length c3, .bool p.grouped, .slice A4 p.group.length c4, .slice A5 p.aggs.length c5] 25)).heap.size w4 HV4.out (Nat.le_trans hbr.size hyw4.size) (by have := HLL.out; omega) (Sl.of_own HO4.out) (fun _ i hi e => by
        have h1 := own_ge HO4.out i hi
        have h2 := own_lt HV.out.own i e
        have h3 : wr1.heap.size ≤ wr1.drew.heap.size := hy0.size
        omega) HVA.out.rises HZG.out (by have := look_range (r := Z) (m := k) (by omega) HVA.out.nums; omega) (by omega))
      go_simp
      refine Calls.mono (by with_reducible exact HMORE.out) ?_
      rintro e w5 ⟨v5, L5, rfl, hV5, hav5, hg5, -, -⟩
      have HV5 := Lib.hid hV5
      have HA5 := Lib.hid hav5
      have hbN := (below_trans hbr hyw4).grown hg5 (below_trans hbr hyw4).size (fun j hj => own_ge HV4.out.own j hj)
      have hBN := below_trans hB hbN
      have HKN := HK0.out.below hbN
      clear hV5 hav5 hg5
      go_wp2_with fail
      refine hK.out _ _ (And.intro (HKN.cell 0 _ rfl) (And.intro (HKN.cell 1 _ rfl) (And.intro (HKN.cell 2 _ rfl) (And.intro (HKN.cell 3 _ rfl) (And.intro (HKN.cell 4 _ rfl) (And.intro (HKN.cell 5 _ rfl) (And.intro (HKN.cell 6 _ rfl) (And.intro (HKN.cell 7 _ rfl) (And.intro (HKN.cell 8 _ rfl) (And.intro (HKN.cell 9 _ rfl) (And.intro (HKN.cell 10 _ rfl) (And.intro (HKN.cell 11 _ rfl) (And.intro (HKN.cell 12 _ rfl) (And.intro ((HCB.out _ hBN).1) (And.intro ((HCB.out _ hBN).2.1) ((HCB.out _ hBN).2.2)))))))))))))))) (fun hHeld7 => ?_)
      clear hK K
      refine tk 8 ?_; refine tk 9 ?_; refine tk 10 ?_; refine tk 11 ?_
      refine td ?_
      have HVN : Hid (VA p (gps G) (k + 1) (av L5)) := Lib.hid (by rw [HA5.out]; exact HVS.out)
      go_wp2
      go_roundw
      case rel => exact ⟨k + 1, L5, by omega, by go_num, HV5, HVN, hbN⟩
      case measure => simp [intOf]; omega
    · obtain rfl : k = G.length := by omega
      have hq1 : ¬ (G.length : Int) < (G.length : Int) := by omega
      have HE := Lib.hid (VA.done (p := p) (G := gps G) (A := av L) (by rw [gps_len]; exact HVA.out) HGD.out.few)
      clear HVA
      go_wp2
      go_ret
      first
        | exact ⟨_, L, rfl, HV.out.view, HE.out, hBr⟩
        | exact ⟨_, rfl, L, HV.out.view, HE.out, hBr⟩
end Go.Proofs.YtblhidmkalleoaaGreatDoor
