/-
  Plans: KeyOf.
-/
import Derived.Test.YtelmlagolmabpaaDoorPlan17
set_option linter.unusedSimpArgs false
set_option linter.unusedVariables false
namespace Go.Proofs.YtelmlagolmabpaaDoor
open Go.RowKit Go.Maps

set_option maxHeartbeats 2000000 in
set_option maxRecDepth 10000 in
theorem keyOf_any (p : Pl) (side : Int) (v : Value) (r : List Val) (w : World) (h : p.ok w) (hf : p.fit) (hr : Sl w v r.length (rowCells r)) (hfr : Fine r) (hm : Mx w) :
    Calls Tryd.prog 20 #[.agg #[.int .i64 p.kind, .int .i64 p.mode, .int .i64 p.low, .int .i64 p.high, .int .i64 p.size, .int .i64 p.limit, p.vl, p.vr, p.vk, p.vq, .bool p.grouped, p.vg, p.va], .int .i64 side, v] w fun e w' => e = .returned (.tuple #[.string (keyOfR p side r).1, .bool (keyOfR p side r).2, .int .i64 (rowR p side r)]) ∧ Below w.heap.size w w' := by
  have HROW := Lib.hid (fun w' (hb : Below w.heap.size w w') => row_any p side v r w' (h.below hb) hf (hr.below hb) hfr.small)
  have HMX := Lib.hid hm
  by_cases hq : rowR p side r = 0
  · have hrow := rowR_fine hq
    have HE : Hid (keyOfR p side r = if allB (fun x : Val => x.k != 0) ((colsT p side).map (pickV r)) then (str (keyRow ((colsT p side).map (pickV r))), true) else (⟨#[]⟩, false)) := Lib.hid (if_pos hq)
    rw [hq] at HROW ⊢
    have HPF := Lib.hid (picked_fine hrow hfr)
    have HCO := Lib.hid hrow.cols
    have HFW := hrow.few
    have HSD := hrow.sides
    have HS := Lib.hid hrow.one
    have HS' := Lib.hid hrow.two
    have HL := Lib.hid h.k
    have HR := Lib.hid h.q
    have HV := Lib.hid hr
    clear h hf hrow hq hfr hm
    generalize keyOfR p side r = R at HE ⊢
    generalize colsT p side = t at HE HS HS' HPF HCO HFW
    obtain ⟨kind, mode, low, high, size, limit, vl, vr, vk, vq, grouped, vg, va, left, right, lkeys, rkeys, group, aggs⟩ := p
    simp only at HE HL HR HS HS' HPF HCO HFW HROW ⊢
    obtain ⟨A0, c0, rfl, n0, m0, -⟩ := id HL.out
    obtain ⟨A1, c1, rfl, n1, m1, -⟩ := id HR.out
    obtain ⟨A, c, rfl, n2, m2, -⟩ := hr
    unfold maxLen at m0 m1 m2
    have hB := below_alloc w (.cells #[.int .i64 kind, .int .i64 mode, .int .i64 low, .int .i64 high, .int .i64 size, .int .i64 limit, vl, vr, .slice A0 lkeys.length c0, .slice A1 rkeys.length c1, .bool grouped, vg, va] 25)
    have K1 := Blk.new w 25 #[.int .i64 kind, .int .i64 mode, .int .i64 low, .int .i64 high, .int .i64 size, .int .i64 limit, vl, vr, .slice A0 lkeys.length c0, .slice A1 rkeys.length c1, .bool grouped, vg, va]
    have HE2 := HE
    obtain ⟨s, hss⟩ : ∃ s, t.map (pickV r) = s := ⟨_, rfl⟩
    rw [hss] at HPF HE2
    have HSS := Lib.hid hss
    have hsl : s.length = t.length := by rw [← hss, List.length_map]
    clear hss HE
    rcases HSD with hs | hs
    · have b1 : (side == 2) = false := beqF (by omega)
      obtain rfl := HS.out hs
      have HTT := HL
      clear HS HS' hs
      go_enter Tryd.func20, Tryd.ntmps20
      go_wp2_with fail
      refine (HROW.out _ hB).mono ?_
      rintro e w1 ⟨rfl, hb1⟩
      have B1 := below_trans hB hb1
      have K2 := K1.below hb1
      have y8 := K2.cell 8 _ rfl
      have y9 := K2.cell 9 _ rfl
      clear K1 hB hb1 HROW
      go_wp2_with fail
      go_loopw [11, 13, 31] (fun out _ i wr => ∃ (k : Nat) (u : Value), u = out ∧ k ≤ t.length ∧ i = .int .i64 k ∧ Hid (∀ x ∈ s.take k, (x.k != 0) = true) ∧ wr.ownsRow w1.heap.size 79 3 u k (rowCells (s.take k)) ∧ Below w1.heap.size w1 wr) (fun _ _ i _ => t.length - (intOf i).toNat)
      case atStart => exact ⟨0, _, rfl, by omega, rfl, by simp [Hid], ⟨rfl, .inl ⟨rfl, rfl⟩⟩, Below.refl _ _⟩
      case round =>
        obtain ⟨k, u, rfl, hk, rfl, H, hown, hbw⟩ := hrel
        have hBw := B1.trans (hbw.mono B1.size)
        by_cases hlt : k < t.length
        · obtain ⟨bt, ot, hAt, -, hct⟩ := int_at HTT.out rfl hlt
          have d0 := hct _ hBw
          have gt : t[k]? = some (t.getD k 0) := by simp [hlt]
          generalize t.getD k 0 = y at d0 gt
          have ry := HCO.out y (List.mem_of_getElem? gt)
          obtain ⟨m, rfl⟩ : ∃ m : Nat, y = m := ⟨y.toNat, by omega⟩
          have hm : m < r.length := by omega
          have hx := pick_at hm
          have gs : s[k]? = some (pickV r (m : Int)) := by rw [← HSS.out, List.getElem?_map, gt]; rfl
          have hst : s.take (k + 1) = s.take k ++ [pickV r (m : Int)] := by rw [List.take_add_one, gs]; rfl
          generalize pickV r (m : Int) = x at hx hst gs
          obtain ⟨g, off, rfl, -, hc⟩ := val_at HV.out rfl hx
          obtain ⟨d1, d2, d3⟩ := hc _ hBw
          have HST := Lib.hid hst
          have HM := Lib.hid (List.mem_of_getElem? gs)
          clear hx hc hct gt hst ry gs
          subst hAt
          have m0' : (0 : Int) ≤ (m : Int) := by omega
          have m1' : (m : Int) < (r.length : Int) := by omega
          cases hz : (x.k == 0)
          · have hz2 := bne_of hz
            simp only [Bool.not_false] at hz2
            go_wp2_with (at_builtin; refine wpList_app rfl (.tmp 41) (.tmp 46) 34 rfl w1.heap.size 79 3 32 Tryd.underlying34 valJ _ k _ rfl (hown.alloc _) _ 1 x.cells rfl (one_val _ x) rfl (val_cell x) ?_ ?_ ?_ ?_)
            · unfold maxLen; omega
            · omega
            · have := hbw.size; simp; omega
            · intro v2 w3 hown3 hg3 hat3
              have hbw3 := below_grown (hbw.alloc hbw.size (.cells #[.int .i64 x.k, .int .i64 x.n, .string x.s] 79)) hg3 (own_ge hown)
              have O3 : Hid (w3.ownsRow w1.heap.size 79 3 v2 (k + 1) (rowCells (s.take (k + 1)))) := by
                rw [rowCells_step, ← HST.out] at hown3
                exact hown3
              have HZ : Hid (∀ x ∈ s.take (k + 1), (x.k != 0) = true) := by
                rw [HST.out]
                intro z hzz
                rcases List.mem_append.1 hzz with hzz | hzz
                · exact H.out z hzz
                · simp only [List.mem_singleton] at hzz; rw [hzz]; exact hz2
              clear hown3 hg3 hat3 hown
              go_wp2
              go_roundw
              case rel => exact ⟨k + 1, _, rfl, by omega, by go_num, HZ.out, O3.out, hbw3⟩
              case measure => simp [intOf]; omega
          · have hz2 := bne_of hz
            simp only [Bool.not_true] at hz2
            have EE : Hid (R = (⟨#[]⟩, false)) := Lib.hid (by
              rw [HE2.out]
              refine if_neg ?_
              rw [Bool.not_eq_true, allB, List.all_eq_false]
              exact ⟨x, HM.out, by simp [hz2]⟩)
            clear hown
            go_wp2
            go_ret3
            exact ⟨by rw [EE.out]; rfl, hBw⟩
        · obtain rfl : k = t.length := by omega
          have HO := Lib.hid (Sl.of_own hown)
          clear hown
          rw [List.take_of_length_le (by omega)] at HO H
          have EE : Hid (R = (str (keyRow s), true)) := Lib.hid (by
            rw [HE2.out]
            refine if_pos ?_
            rw [allB, List.all_eq_true]
            exact H.out)
          have HO2 : Hid (Sl wr u s.length (rowCells s)) := Lib.hid (by rw [hsl]; exact HO.out)
          go_wp2_with fail
          refine (key_any u s _ HO2.out HPF.out.1 (HMX.out.below hBw)).mono ?_
          rw [show keyR s = (str (keyRow s), 0) from if_neg (by rw [HPF.out.2]; simp)]
          rintro e w2 ⟨rfl, hb2⟩
          go_wp2
          go_ret3
          exact ⟨by rw [EE.out]; rfl, below_trans hBw hb2⟩
    · have b1 := beqT hs
      obtain rfl := HS'.out hs
      have HTT := HR
      clear HS HS' hs
      go_enter Tryd.func20, Tryd.ntmps20
      go_wp2_with fail
      refine (HROW.out _ hB).mono ?_
      rintro e w1 ⟨rfl, hb1⟩
      have B1 := below_trans hB hb1
      have K2 := K1.below hb1
      have y8 := K2.cell 8 _ rfl
      have y9 := K2.cell 9 _ rfl
      clear K1 hB hb1 HROW
      go_wp2_with fail
      go_loopw [11, 13, 31] (fun out _ i wr => ∃ (k : Nat) (u : Value), u = out ∧ k ≤ t.length ∧ i = .int .i64 k ∧ Hid (∀ x ∈ s.take k, (x.k != 0) = true) ∧ wr.ownsRow w1.heap.size 79 3 u k (rowCells (s.take k)) ∧ Below w1.heap.size w1 wr) (fun _ _ i _ => t.length - (intOf i).toNat)
      case atStart => exact ⟨0, _, rfl, by omega, rfl, by simp [Hid], ⟨rfl, .inl ⟨rfl, rfl⟩⟩, Below.refl _ _⟩
      case round =>
        obtain ⟨k, u, rfl, hk, rfl, H, hown, hbw⟩ := hrel
        have hBw := B1.trans (hbw.mono B1.size)
        by_cases hlt : k < t.length
        · obtain ⟨bt, ot, hAt, -, hct⟩ := int_at HTT.out rfl hlt
          have d0 := hct _ hBw
          have gt : t[k]? = some (t.getD k 0) := by simp [hlt]
          generalize t.getD k 0 = y at d0 gt
          have ry := HCO.out y (List.mem_of_getElem? gt)
          obtain ⟨m, rfl⟩ : ∃ m : Nat, y = m := ⟨y.toNat, by omega⟩
          have hm : m < r.length := by omega
          have hx := pick_at hm
          have gs : s[k]? = some (pickV r (m : Int)) := by rw [← HSS.out, List.getElem?_map, gt]; rfl
          have hst : s.take (k + 1) = s.take k ++ [pickV r (m : Int)] := by rw [List.take_add_one, gs]; rfl
          generalize pickV r (m : Int) = x at hx hst gs
          obtain ⟨g, off, rfl, -, hc⟩ := val_at HV.out rfl hx
          obtain ⟨d1, d2, d3⟩ := hc _ hBw
          have HST := Lib.hid hst
          have HM := Lib.hid (List.mem_of_getElem? gs)
          clear hx hc hct gt hst ry gs
          subst hAt
          have m0' : (0 : Int) ≤ (m : Int) := by omega
          have m1' : (m : Int) < (r.length : Int) := by omega
          cases hz : (x.k == 0)
          · have hz2 := bne_of hz
            simp only [Bool.not_false] at hz2
            go_wp2_with (at_builtin; refine wpList_app rfl (.tmp 41) (.tmp 46) 34 rfl w1.heap.size 79 3 32 Tryd.underlying34 valJ _ k _ rfl (hown.alloc _) _ 1 x.cells rfl (one_val _ x) rfl (val_cell x) ?_ ?_ ?_ ?_)
            · unfold maxLen; omega
            · omega
            · have := hbw.size; simp; omega
            · intro v2 w3 hown3 hg3 hat3
              have hbw3 := below_grown (hbw.alloc hbw.size (.cells #[.int .i64 x.k, .int .i64 x.n, .string x.s] 79)) hg3 (own_ge hown)
              have O3 : Hid (w3.ownsRow w1.heap.size 79 3 v2 (k + 1) (rowCells (s.take (k + 1)))) := by
                rw [rowCells_step, ← HST.out] at hown3
                exact hown3
              have HZ : Hid (∀ x ∈ s.take (k + 1), (x.k != 0) = true) := by
                rw [HST.out]
                intro z hzz
                rcases List.mem_append.1 hzz with hzz | hzz
                · exact H.out z hzz
                · simp only [List.mem_singleton] at hzz; rw [hzz]; exact hz2
              clear hown3 hg3 hat3 hown
              go_wp2
              go_roundw
              case rel => exact ⟨k + 1, _, rfl, by omega, by go_num, HZ.out, O3.out, hbw3⟩
              case measure => simp [intOf]; omega
          · have hz2 := bne_of hz
            simp only [Bool.not_true] at hz2
            have EE : Hid (R = (⟨#[]⟩, false)) := Lib.hid (by
              rw [HE2.out]
              refine if_neg ?_
              rw [Bool.not_eq_true, allB, List.all_eq_false]
              exact ⟨x, HM.out, by simp [hz2]⟩)
            clear hown
            go_wp2
            go_ret3
            exact ⟨by rw [EE.out]; rfl, hBw⟩
        · obtain rfl : k = t.length := by omega
          have HO := Lib.hid (Sl.of_own hown)
          clear hown
          rw [List.take_of_length_le (by omega)] at HO H
          have EE : Hid (R = (str (keyRow s), true)) := Lib.hid (by
            rw [HE2.out]
            refine if_pos ?_
            rw [allB, List.all_eq_true]
            exact H.out)
          have HO2 : Hid (Sl wr u s.length (rowCells s)) := Lib.hid (by rw [hsl]; exact HO.out)
          go_wp2_with fail
          refine (key_any u s _ HO2.out HPF.out.1 (HMX.out.below hBw)).mono ?_
          rw [show keyR s = (str (keyRow s), 0) from if_neg (by rw [HPF.out.2]; simp)]
          rintro e w2 ⟨rfl, hb2⟩
          go_wp2
          go_ret3
          exact ⟨by rw [EE.out]; rfl, below_trans hBw hb2⟩
  · have HE : Hid (keyOfR p side r = (⟨#[]⟩, false)) := Lib.hid (if_neg hq)
    rw [HE.out]
    generalize rowR p side r = q at HROW hq ⊢
    have hb := beqF hq
    have hb' := bne_of hb
    simp only [Bool.not_false] at hb'
    clear hq
    obtain ⟨kind, mode, low, high, size, limit, vl, vr, vk, vq, grouped, vg, va, left, right, lkeys, rkeys, group, aggs⟩ := p
    simp only at HROW ⊢
    have hB := below_alloc w (.cells #[.int .i64 kind, .int .i64 mode, .int .i64 low, .int .i64 high, .int .i64 size, .int .i64 limit, vl, vr, vk, vq, .bool grouped, vg, va] 25)
    go_enter Tryd.func20, Tryd.ntmps20
    go_wp2_with fail
    refine (HROW.out _ hB).mono ?_
    rintro e w1 ⟨rfl, hb1⟩
    go_wp2
    go_ret3
    exact ⟨rfl, below_trans hB hb1⟩

end Go.Proofs.YtelmlagolmabpaaDoor
