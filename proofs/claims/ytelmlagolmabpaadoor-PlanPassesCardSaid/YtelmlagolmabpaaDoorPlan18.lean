/-
  Plans: the reference's KeyFor.
-/
import Derived.Test.YtelmlagolmabpaaDoorPlan17
set_option linter.unusedSimpArgs false
set_option linter.unusedVariables false
namespace Go.Proofs.YtelmlagolmabpaaDoor
open Go.RowKit Go.Maps

set_option maxHeartbeats 2000000 in
set_option maxRecDepth 10000 in
theorem keyFor_any (p : Pl) (side : Int) (v : Value) (r : List Val) (w : World) (h : p.ok w) (hr : Sl w v r.length (rowCells r)) (hf : Fine r) (hrow : RowFine p side r) :
    Calls Tryd.prog 23 #[.agg #[.int .i64 p.kind, .int .i64 p.mode, .int .i64 p.low, .int .i64 p.high, .int .i64 p.size, .int .i64 p.limit, p.vl, p.vr, p.vk, p.vq, .bool p.grouped, p.vg, p.va], .int .i64 side, v] w fun e w' => e = .returned (.tuple #[.string (keyFor p side r).1, .bool (keyFor p side r).2]) ∧ Below w.heap.size w w' := by
  have HE : Hid (keyFor p side r = if allB (fun x : Val => x.k != 0) ((colsT p side).map (pickV r)) then (str (keyRow ((colsT p side).map (pickV r))), true) else (⟨#[]⟩, false)) := Lib.hid rfl
  have HPF := Lib.hid (picked_fine hrow hf)
  have HCO := Lib.hid hrow.cols
  have HFW := hrow.few
  have HSD := hrow.sides
  have HS := Lib.hid hrow.one
  have HS' := Lib.hid hrow.two
  have HL := Lib.hid h.k
  have HR := Lib.hid h.q
  have HV := Lib.hid hr
  clear h hf hrow
  generalize keyFor p side r = R at HE ⊢
  generalize colsT p side = t at HE HS HS' HPF HCO HFW
  obtain ⟨kind, mode, low, high, size, limit, vl, vr, vk, vq, grouped, vg, va, left, right, lkeys, rkeys, group, aggs⟩ := p
  simp only at HE HL HR HS HS' HPF HCO HFW ⊢
  obtain ⟨A0, c0, rfl, n0, m0, -⟩ := id HL.out
  obtain ⟨A1, c1, rfl, n1, m1, -⟩ := id HR.out
  obtain ⟨A, c, rfl, n2, m2, -⟩ := hr
  unfold maxLen at m0 m1 m2
  have B1 := below_alloc w (.cells #[.int .i64 kind, .int .i64 mode, .int .i64 low, .int .i64 high, .int .i64 size, .int .i64 limit, vl, vr, .slice A0 lkeys.length c0, .slice A1 rkeys.length c1, .bool grouped, vg, va] 25)
  have HE2 := HE
  obtain ⟨s, hss⟩ : ∃ s, t.map (pickV r) = s := ⟨_, rfl⟩
  rw [hss] at HPF HE2
  have HSS := Lib.hid hss
  have hsl : s.length = t.length := by rw [← hss, List.length_map]
  clear hss HE
  rcases HSD with hs | hs
  · have b1 : (side == 2) = false := beqF (by omega)
    obtain rfl := HS.out hs
    have HTT := HL
    clear HS HS' hs
    go_enter Tryd.func23, Tryd.ntmps23
    go_wp2_with fail
    go_loopw [9, 10] (fun out i wr => ∃ (k : Nat) (u : Value), u = out ∧ k ≤ t.length ∧ i = .int .i64 k ∧ Hid (∀ x ∈ s.take k, (x.k != 0) = true) ∧ wr.ownsRow w.heap.size 79 3 u k (rowCells (s.take k)) ∧ Below w.heap.size w wr) (fun _ i _ => t.length - (intOf i).toNat)
    case atStart => exact ⟨0, _, rfl, by omega, rfl, by simp [Hid], ⟨rfl, .inl ⟨rfl, rfl⟩⟩, B1⟩
    case round =>
      obtain ⟨k, u, rfl, hk, rfl, H, hown, hbw⟩ := hrel
      have hBw := hbw
      by_cases hlt : k < t.length
      · obtain ⟨bt, ot, hAt, -, hct⟩ := int_at HTT.out rfl hlt
        have d0 := hct _ hBw
        have gt : t[k]? = some (t.getD k 0) := by simp [hlt]
        generalize t.getD k 0 = y at d0 gt
        have ry := HCO.out y (List.mem_of_getElem? gt)
        obtain ⟨m, rfl⟩ : ∃ m : Nat, y = m := ⟨y.toNat, by omega⟩
        have hm : m < r.length := by omega
        have hx := pick_at hm
        have gs : s[k]? = some (pickV r (m : Int)) := by rw [← HSS.out, List.getElem?_map, gt]; rfl
        have hst : s.take (k + 1) = s.take k ++ [pickV r (m : Int)] := by rw [List.take_add_one, gs]; rfl
        generalize pickV r (m : Int) = x at hx hst gs
        obtain ⟨g, off, rfl, -, hc⟩ := val_at HV.out rfl hx
        obtain ⟨d1, d2, d3⟩ := hc _ hBw
        have HST := Lib.hid hst
        have HM := Lib.hid (List.mem_of_getElem? gs)
        clear hx hc hct gt hst ry gs
        subst hAt
        have m0' : (0 : Int) ≤ (m : Int) := by omega
        have m1' : (m : Int) < (r.length : Int) := by omega
        cases hz : (x.k == 0)
        · have hz2 := bne_of hz
          simp only [Bool.not_false] at hz2
          go_wp2_with (at_builtin; refine wpList_app rfl (.tmp 32) (.tmp 40) 34 rfl w.heap.size 79 3 32 Tryd.underlying34 valJ _ k _ rfl (hown.alloc _) _ 1 x.cells rfl (one_val _ x) rfl (val_cell x) ?_ ?_ ?_ ?_)
          · unfold maxLen; omega
          · omega
          · have := hbw.size; simp; omega
          · intro v2 w3 hown3 hg3 hat3
            have hbw3 := below_grown (hbw.alloc hbw.size (.cells #[.int .i64 x.k, .int .i64 x.n, .string x.s] 79)) hg3 (own_ge hown)
            have O3 : Hid (w3.ownsRow w.heap.size 79 3 v2 (k + 1) (rowCells (s.take (k + 1)))) := by
              rw [rowCells_step, ← HST.out] at hown3
              exact hown3
            have HZ : Hid (∀ x ∈ s.take (k + 1), (x.k != 0) = true) := by
              rw [HST.out]
              intro z hzz
              rcases List.mem_append.1 hzz with hzz | hzz
              · exact H.out z hzz
              · simp only [List.mem_singleton] at hzz; rw [hzz]; exact hz2
            clear hown3 hg3 hat3 hown
            go_wp2
            go_roundw
            case rel => exact ⟨k + 1, _, rfl, by omega, by go_num, HZ.out, O3.out, hbw3⟩
            case measure => simp [intOf]; omega
        · have hz2 := bne_of hz
          simp only [Bool.not_true] at hz2
          have EE : Hid (R = (⟨#[]⟩, false)) := Lib.hid (by
            rw [HE2.out]
            refine if_neg ?_
            rw [Bool.not_eq_true, allB, List.all_eq_false]
            exact ⟨x, HM.out, by simp [hz2]⟩)
          clear hown
          go_wp2
          go_ret2
          exact ⟨by rw [EE.out]; rfl, hBw⟩
      · obtain rfl : k = t.length := by omega
        have HO := Lib.hid (Sl.of_own hown)
        clear hown
        rw [List.take_of_length_le (by omega)] at HO H
        have EE : Hid (R = (str (keyRow s), true)) := Lib.hid (by
          rw [HE2.out]
          refine if_pos ?_
          rw [allB, List.all_eq_true]
          exact H.out)
        have HO2 : Hid (Sl wr u s.length (rowCells s)) := Lib.hid (by rw [hsl]; exact HO.out)
        go_wp2_with fail
        refine (rkey_any u s _ HO2.out HPF.out.1 HPF.out.2).mono ?_
        rintro e w2 ⟨rfl, hb2⟩
        go_wp2
        go_ret2
        exact ⟨by rw [EE.out]; rfl, below_trans hBw hb2⟩
  · have b1 := beqT hs
    obtain rfl := HS'.out hs
    have HTT := HR
    clear HS HS' hs
    go_enter Tryd.func23, Tryd.ntmps23
    go_wp2_with fail
    go_loopw [9, 10] (fun out i wr => ∃ (k : Nat) (u : Value), u = out ∧ k ≤ t.length ∧ i = .int .i64 k ∧ Hid (∀ x ∈ s.take k, (x.k != 0) = true) ∧ wr.ownsRow w.heap.size 79 3 u k (rowCells (s.take k)) ∧ Below w.heap.size w wr) (fun _ i _ => t.length - (intOf i).toNat)
    case atStart => exact ⟨0, _, rfl, by omega, rfl, by simp [Hid], ⟨rfl, .inl ⟨rfl, rfl⟩⟩, B1⟩
    case round =>
      obtain ⟨k, u, rfl, hk, rfl, H, hown, hbw⟩ := hrel
      have hBw := hbw
      by_cases hlt : k < t.length
      · obtain ⟨bt, ot, hAt, -, hct⟩ := int_at HTT.out rfl hlt
        have d0 := hct _ hBw
        have gt : t[k]? = some (t.getD k 0) := by simp [hlt]
        generalize t.getD k 0 = y at d0 gt
        have ry := HCO.out y (List.mem_of_getElem? gt)
        obtain ⟨m, rfl⟩ : ∃ m : Nat, y = m := ⟨y.toNat, by omega⟩
        have hm : m < r.length := by omega
        have hx := pick_at hm
        have gs : s[k]? = some (pickV r (m : Int)) := by rw [← HSS.out, List.getElem?_map, gt]; rfl
        have hst : s.take (k + 1) = s.take k ++ [pickV r (m : Int)] := by rw [List.take_add_one, gs]; rfl
        generalize pickV r (m : Int) = x at hx hst gs
        obtain ⟨g, off, rfl, -, hc⟩ := val_at HV.out rfl hx
        obtain ⟨d1, d2, d3⟩ := hc _ hBw
        have HST := Lib.hid hst
        have HM := Lib.hid (List.mem_of_getElem? gs)
        clear hx hc hct gt hst ry gs
        subst hAt
        have m0' : (0 : Int) ≤ (m : Int) := by omega
        have m1' : (m : Int) < (r.length : Int) := by omega
        cases hz : (x.k == 0)
        · have hz2 := bne_of hz
          simp only [Bool.not_false] at hz2
          go_wp2_with (at_builtin; refine wpList_app rfl (.tmp 32) (.tmp 40) 34 rfl w.heap.size 79 3 32 Tryd.underlying34 valJ _ k _ rfl (hown.alloc _) _ 1 x.cells rfl (one_val _ x) rfl (val_cell x) ?_ ?_ ?_ ?_)
          · unfold maxLen; omega
          · omega
          · have := hbw.size; simp; omega
          · intro v2 w3 hown3 hg3 hat3
            have hbw3 := below_grown (hbw.alloc hbw.size (.cells #[.int .i64 x.k, .int .i64 x.n, .string x.s] 79)) hg3 (own_ge hown)
            have O3 : Hid (w3.ownsRow w.heap.size 79 3 v2 (k + 1) (rowCells (s.take (k + 1)))) := by
              rw [rowCells_step, ← HST.out] at hown3
              exact hown3
            have HZ : Hid (∀ x ∈ s.take (k + 1), (x.k != 0) = true) := by
              rw [HST.out]
              intro z hzz
              rcases List.mem_append.1 hzz with hzz | hzz
              · exact H.out z hzz
              · simp only [List.mem_singleton] at hzz; rw [hzz]; exact hz2
            clear hown3 hg3 hat3 hown
            go_wp2
            go_roundw
            case rel => exact ⟨k + 1, _, rfl, by omega, by go_num, HZ.out, O3.out, hbw3⟩
            case measure => simp [intOf]; omega
        · have hz2 := bne_of hz
          simp only [Bool.not_true] at hz2
          have EE : Hid (R = (⟨#[]⟩, false)) := Lib.hid (by
            rw [HE2.out]
            refine if_neg ?_
            rw [Bool.not_eq_true, allB, List.all_eq_false]
            exact ⟨x, HM.out, by simp [hz2]⟩)
          clear hown
          go_wp2
          go_ret2
          exact ⟨by rw [EE.out]; rfl, hBw⟩
      · obtain rfl : k = t.length := by omega
        have HO := Lib.hid (Sl.of_own hown)
        clear hown
        rw [List.take_of_length_le (by omega)] at HO H
        have EE : Hid (R = (str (keyRow s), true)) := Lib.hid (by
          rw [HE2.out]
          refine if_pos ?_
          rw [allB, List.all_eq_true]
          exact H.out)
        have HO2 : Hid (Sl wr u s.length (rowCells s)) := Lib.hid (by rw [hsl]; exact HO.out)
        go_wp2_with fail
        refine (rkey_any u s _ HO2.out HPF.out.1 HPF.out.2).mono ?_
        rintro e w2 ⟨rfl, hb2⟩
        go_wp2
        go_ret2
        exact ⟨by rw [EE.out]; rfl, below_trans hBw hb2⟩


end Go.Proofs.YtelmlagolmabpaaDoor
