/-
  Plans: Row, and the reference's RowError.
-/
import Derived.Test.YtelmlagolmabpaaDoorPlan13
import Derived.Test.YtelmlagolmabpaaDoorValue9
set_option linter.unusedSimpArgs false
set_option linter.unusedVariables false
namespace Go.Proofs.YtelmlagolmabpaaDoor
open Go.RowKit Go.Maps

def sideT (p : Pl) (side : Int) : List Int := if side = 2 then p.right else p.left
def fitOne (q : Int × Val) : Bool := q.2.k == 0 || q.2.k == q.1
def rowE (p : Pl) (side : Int) (r : List Val) : Int :=
  if side = 1 ∨ side = 2 then if r.length = (sideT p side).length then if firstNZ (r.map checkV) = 0 then if allB fitOne ((sideT p side).zip r) then 0 else 5 else firstNZ (r.map checkV) else 2 else 4
def rowR (p : Pl) (side : Int) (r : List Val) : Int := if checkP p = 0 then rowE p side r else checkP p
theorem side_two (p : Pl) : sideT p 2 = p.right := if_pos rfl
theorem side_one (p : Pl) : sideT p 1 = p.left := if_neg (by decide)

set_option maxHeartbeats 8000000 in
set_option maxRecDepth 10000 in
theorem row_any (p : Pl) (side : Int) (v : Value) (r : List Val) (w : World) (h : p.ok w) (hf : p.fit) (hr : Sl w v r.length (rowCells r)) (hs : Small r) :
    Calls Tryd.prog 22 #[.agg #[.int .i64 p.kind, .int .i64 p.mode, .int .i64 p.low, .int .i64 p.high, .int .i64 p.size, .int .i64 p.limit, p.vl, p.vr, p.vk, p.vq, .bool p.grouped, p.vg, p.va], .int .i64 side, v] w fun e w' => e = .returned (.int .i64 (rowR p side r)) ∧ Below w.heap.size w w' := by
  have HC := Lib.hid (fun w' (hb : Below w.heap.size w w') => check_any p w' (h.below hb) hf)
  have HE : Hid (rowR p side r = if checkP p = 0 then (if side = 1 ∨ side = 2 then if r.length = (sideT p side).length then if firstNZ (r.map checkV) = 0 then if allB fitOne ((sideT p side).zip r) then 0 else 5 else firstNZ (r.map checkV) else 2 else 4) else checkP p) := Lib.hid rfl
  have HOK := Lib.hid (fun hz : checkP p = 0 => counts_short (check_ok hz).2.2.1)
  have HL := Lib.hid h.l
  have HR := Lib.hid h.r
  have HV := Lib.hid hr
  have HSM := Lib.hid hs
  clear h hf hs
  generalize rowR p side r = R at HE ⊢
  generalize checkP p = q at HC HE HOK ⊢
  have HS : Hid (side = 1 → sideT p side = p.left) := Lib.hid (by rintro rfl; exact side_one p)
  have HS' : Hid (side = 2 → sideT p side = p.right) := Lib.hid (by rintro rfl; exact side_two p)
  generalize sideT p side = t at HE HS HS'
  obtain ⟨kind, mode, low, high, size, limit, vl, vr, vk, vq, grouped, vg, va, left, right, lkeys, rkeys, group, aggs⟩ := p
  simp only at HC HE HOK HL HR HS HS' ⊢
  obtain ⟨A0, c0, rfl, n0, m0, -⟩ := id HL.out
  obtain ⟨A1, c1, rfl, n1, m1, -⟩ := id HR.out
  obtain ⟨A, c, rfl, n2, m2, -⟩ := hr
  unfold maxLen at m0 m1 m2
  have hB := below_alloc w (.cells #[.int .i64 kind, .int .i64 mode, .int .i64 low, .int .i64 high, .int .i64 size, .int .i64 limit, .slice A0 left.length c0, .slice A1 right.length c1, vk, vq, .bool grouped, vg, va] 25)
  have K1 := Blk.new w 25 #[.int .i64 kind, .int .i64 mode, .int .i64 low, .int .i64 high, .int .i64 size, .int .i64 limit, .slice A0 left.length c0, .slice A1 right.length c1, vk, vq, .bool grouped, vg, va]
  by_cases hq : q = 0
  · subst hq
    obtain ⟨l1, l2, r1, r2, -⟩ := HOK.out rfl
    simp only at l1 l2 r1 r2
    have HE2 := Lib.hid (HE.out.trans (if_pos rfl))
    clear HE HOK
    by_cases hs1 : side = 1
    · have b1 := beqT hs1
      have HE3 := Lib.hid (HE2.out.trans (if_pos (.inl hs1)))
      obtain rfl := HS.out hs1
      have HTT := HL
      clear HE2 HS HS' hs1
      go_enter Tryd.func22, Tryd.ntmps22
      go_wp2_with fail
      refine (HC.out _ hB).mono ?_
      rintro e w1 ⟨rfl, hb1⟩
      have B1 := below_trans hB hb1
      have K2 := K1.below hb1
      clear K1 hB hb1 HC
      have y6 := K2.cell 6 _ rfl
      have y7 := K2.cell 7 _ rfl
      by_cases hlen : r.length = t.length
      · have HE4 := Lib.hid (HE3.out.trans (if_pos hlen))
        have b2 : ((r.length : Int) == (t.length : Int)) = true := by simp [hlen]
        have b2' := bne_of b2
        simp only [Bool.not_true] at b2'
        have HLE := Lib.hid hlen
        have hle : r.length ≤ t.length := by omega
        clear HE3 hlen
        go_wp2_with fail
        go_loopw [10, 11, 35] (fun _ _ i wr => ∃ k : Nat, k ≤ r.length ∧ i = .int .i64 k ∧ Hid (∀ x ∈ (r.map checkV).take k, x = 0) ∧ Below w1.heap.size w1 wr) (fun _ _ i _ => r.length - (intOf i).toNat)
        case atStart => exact ⟨0, by omega, rfl, by simp [Hid], Below.refl _ _⟩
        case round =>
          obtain ⟨k, hk, rfl, H, hbw⟩ := hrel
          have hBw := B1.trans (hbw.mono B1.size)
          by_cases hlt : k < r.length
          · have hx := List.getElem?_eq_getElem (l := r) hlt
            generalize r[k] = x at hx
            obtain ⟨g, off, rfl, -, hc⟩ := val_at HV.out rfl hx
            obtain ⟨d1, d2, d3⟩ := hc _ hBw
            have hxs := HSM.out x (List.mem_of_getElem? hx)
            have HG := Lib.hid (show (r.map checkV)[k]? = some (checkV x) from by rw [List.getElem?_map, hx]; rfl)
            have hbw2 := hbw.alloc hbw.size (.cells #[.int .i64 x.k, .int .i64 x.n, .string x.s] 79)
            clear hx hc
            by_cases hq : checkV x = 0
            · have HQ := Lib.hid hq
              have hq1 := beqT hq
              have hq2 := bne_of hq1
              simp only [Bool.not_true] at hq2
              have HZ := Lib.hid (zeros_step H.out HG.out hq)
              clear hq
              go_wp2_with (go_at_call 66; refine (check_val x _ hxs).mono ?_; rintro e w1 ⟨rfl, hb1⟩)
              go_roundw
              case rel => exact ⟨k + 1, by omega, by go_num, HZ.out, hbw2.trans (hb1.mono hbw2.size)⟩
              case measure => simp [intOf]; omega
            · have e1 := Lib.hid (firstNZ_hit H.out HG.out hq)
              have hq1 := beqF hq
              have hq2 := bne_of hq1
              simp only [Bool.not_false] at hq2
              have EE : Hid (R = checkV x) := Lib.hid (by rw [HE4.out, e1.out, if_neg hq])
              clear hq
              go_wp2_with (go_at_call 66; refine (check_val x _ hxs).mono ?_; rintro e w1 ⟨rfl, hb1⟩)
              go_ret
              exact ⟨by rw [EE.out]; rfl, (hBw.alloc hBw.size _).trans (hb1.mono (by have := hBw.size; simp; omega))⟩
          · obtain rfl : k = r.length := by omega
            have e1 := Lib.hid (firstNZ_none (l := r.map checkV) (by have := H.out; rwa [List.take_of_length_le (by simp)] at this))
            have HE5 : Hid (R = if allB fitOne (t.zip r) then 0 else 5) := Lib.hid (by rw [HE4.out, e1.out]; rfl)
            clear HE4 e1 H
            go_wp2_with fail
            go_loopw [12, 13, 47] (fun _ _ i wr => ∃ k : Nat, k ≤ r.length ∧ i = .int .i64 k ∧ Hid (∀ x ∈ (t.zip r).take k, fitOne x = true) ∧ Below w1.heap.size w1 wr) (fun _ _ i _ => r.length - (intOf i).toNat)
            case atStart => exact ⟨0, by omega, rfl, by simp [Hid], hbw⟩
            case round =>
              clear hbw hBw
              obtain ⟨k, hk, rfl, H, hbw⟩ := hrel
              have hBw := B1.trans (hbw.mono B1.size)
              by_cases hlt : k < r.length
              · have hx := List.getElem?_eq_getElem (l := r) hlt
                generalize r[k] = x at hx
                obtain ⟨g, off, rfl, -, hc⟩ := val_at HV.out rfl hx
                obtain ⟨d1, d2, d3⟩ := hc _ hBw
                have hlt2 : k < t.length := by omega
                obtain ⟨bt, ot, hAt, -, hct⟩ := int_at HTT.out rfl hlt2
                have hbw2 := hbw.alloc hbw.size (.cells #[.int .i64 x.k, .int .i64 x.n, .string x.s] 79)
                have hBw2 := B1.trans (hbw2.mono B1.size)
                have d4 := hct _ hBw2
                have gt : t[k]? = some (t.getD k 0) := by simp [hlt2]
                generalize t.getD k 0 = y at d4 gt
                have HG := Lib.hid (show (t.zip r)[k]? = some (y, x) from by rw [List.getElem?_zip_eq_some]; exact ⟨gt, hx⟩)
                have HFO := Lib.hid (show fitOne (y, x) = (x.k == 0 || x.k == y) from rfl)
                clear hx hc hct gt
                subst hAt
                have k0 : (0 : Int) ≤ (k : Int) := by omega
                have k1 : (k : Int) < (t.length : Int) := by omega
                cases hq : (x.k == 0)
                · have hq2 := bne_of hq
                  simp only [Bool.not_false] at hq2
                  cases hz : (x.k == y)
                  · have hz2 := bne_of hz
                    simp only [Bool.not_false] at hz2
                    have e1 := Lib.hid (all_no (f := fitOne) HG.out (by rw [HFO.out, hq, hz]; rfl))
                    have EE : Hid (R = 5) := Lib.hid (by rw [HE5.out, e1.out]; rfl)
                    go_wp2_with fail
                    go_quiet (fail)
                    go_wp2
                    go_ret
                    exact ⟨ret_int (by rw [EE.out]), below_drewN hBw2 _⟩
                  · have hz2 := bne_of hz
                    simp only [Bool.not_true] at hz2
                    have e1 := Lib.hid (all_step (f := fitOne) H.out HG.out (by rw [HFO.out, hz, Bool.or_true]))
                    go_wp2_with fail
                    go_quiet (fail)
                    go_wp2
                    go_roundw
                    case rel => exact ⟨k + 1, by omega, by go_num, e1.out, below_drewN hbw2 _⟩
                    case measure => simp [intOf]; omega
                · have hq2 := bne_of hq
                  simp only [Bool.not_true] at hq2
                  have e1 := Lib.hid (all_step (f := fitOne) H.out HG.out (by rw [HFO.out, hq, Bool.true_or]))
                  go_wp2_with fail
                  go_quiet (fail)
                  go_wp2
                  go_roundw
                  case rel => exact ⟨k + 1, by omega, by go_num, e1.out, below_drewN hbw2 _⟩
                  case measure => simp [intOf]; omega
              · obtain rfl : k = r.length := by omega
                have e1 := Lib.hid (show allB fitOne (t.zip r) = true from all_yes (by
                  have hzl : (t.zip r).length = r.length := by rw [List.length_zip]; omega
                  rw [hzl]; exact H.out))
                have EE : Hid (R = 0) := Lib.hid (by rw [HE5.out, e1.out]; rfl)
                go_wp2
                go_ret
                exact ⟨ret_int (by rw [EE.out]), hBw⟩
      · have EE : Hid (R = 2) := Lib.hid (HE3.out.trans (if_neg hlen))
        have b2 : ((r.length : Int) == (t.length : Int)) = false := by simp; omega
        have b2' := bne_of b2
        simp only [Bool.not_false] at b2'
        clear HE3 hlen
        go_wp2
        go_ret
        exact ⟨ret_int (by rw [EE.out]), B1⟩
    · by_cases hs2 : side = 2
      · have b1 := beqF hs1
        have b1b := beqT hs2
        have HE3 := Lib.hid (HE2.out.trans (if_pos (.inr hs2)))
        obtain rfl := HS'.out hs2
        have HTT := HR
        clear HE2 HS HS' hs1 hs2
        go_enter Tryd.func22, Tryd.ntmps22
        go_wp2_with fail
        refine (HC.out _ hB).mono ?_
        rintro e w1 ⟨rfl, hb1⟩
        have B1 := below_trans hB hb1
        have K2 := K1.below hb1
        clear K1 hB hb1 HC
        have y6 := K2.cell 6 _ rfl
        have y7 := K2.cell 7 _ rfl
        by_cases hlen : r.length = t.length
        · have HE4 := Lib.hid (HE3.out.trans (if_pos hlen))
          have b2 : ((r.length : Int) == (t.length : Int)) = true := by simp [hlen]
          have b2' := bne_of b2
          simp only [Bool.not_true] at b2'
          have HLE := Lib.hid hlen
          have hle : r.length ≤ t.length := by omega
          clear HE3 hlen
          go_wp2_with fail
          go_loopw [10, 11, 35] (fun _ _ i wr => ∃ k : Nat, k ≤ r.length ∧ i = .int .i64 k ∧ Hid (∀ x ∈ (r.map checkV).take k, x = 0) ∧ Below w1.heap.size w1 wr) (fun _ _ i _ => r.length - (intOf i).toNat)
          case atStart => exact ⟨0, by omega, rfl, by simp [Hid], Below.refl _ _⟩
          case round =>
            obtain ⟨k, hk, rfl, H, hbw⟩ := hrel
            have hBw := B1.trans (hbw.mono B1.size)
            by_cases hlt : k < r.length
            · have hx := List.getElem?_eq_getElem (l := r) hlt
              generalize r[k] = x at hx
              obtain ⟨g, off, rfl, -, hc⟩ := val_at HV.out rfl hx
              obtain ⟨d1, d2, d3⟩ := hc _ hBw
              have hxs := HSM.out x (List.mem_of_getElem? hx)
              have HG := Lib.hid (show (r.map checkV)[k]? = some (checkV x) from by rw [List.getElem?_map, hx]; rfl)
              have hbw2 := hbw.alloc hbw.size (.cells #[.int .i64 x.k, .int .i64 x.n, .string x.s] 79)
              clear hx hc
              by_cases hq : checkV x = 0
              · have HQ := Lib.hid hq
                have hq1 := beqT hq
                have hq2 := bne_of hq1
                simp only [Bool.not_true] at hq2
                have HZ := Lib.hid (zeros_step H.out HG.out hq)
                clear hq
                go_wp2_with (go_at_call 66; refine (check_val x _ hxs).mono ?_; rintro e w1 ⟨rfl, hb1⟩)
                go_roundw
                case rel => exact ⟨k + 1, by omega, by go_num, HZ.out, hbw2.trans (hb1.mono hbw2.size)⟩
                case measure => simp [intOf]; omega
              · have e1 := Lib.hid (firstNZ_hit H.out HG.out hq)
                have hq1 := beqF hq
                have hq2 := bne_of hq1
                simp only [Bool.not_false] at hq2
                have EE : Hid (R = checkV x) := Lib.hid (by rw [HE4.out, e1.out, if_neg hq])
                clear hq
                go_wp2_with (go_at_call 66; refine (check_val x _ hxs).mono ?_; rintro e w1 ⟨rfl, hb1⟩)
                go_ret
                exact ⟨by rw [EE.out]; rfl, (hBw.alloc hBw.size _).trans (hb1.mono (by have := hBw.size; simp; omega))⟩
            · obtain rfl : k = r.length := by omega
              have e1 := Lib.hid (firstNZ_none (l := r.map checkV) (by have := H.out; rwa [List.take_of_length_le (by simp)] at this))
              have HE5 : Hid (R = if allB fitOne (t.zip r) then 0 else 5) := Lib.hid (by rw [HE4.out, e1.out]; rfl)
              clear HE4 e1 H
              go_wp2_with fail
              go_loopw [12, 13, 47] (fun _ _ i wr => ∃ k : Nat, k ≤ r.length ∧ i = .int .i64 k ∧ Hid (∀ x ∈ (t.zip r).take k, fitOne x = true) ∧ Below w1.heap.size w1 wr) (fun _ _ i _ => r.length - (intOf i).toNat)
              case atStart => exact ⟨0, by omega, rfl, by simp [Hid], hbw⟩
              case round =>
                clear hbw hBw
                obtain ⟨k, hk, rfl, H, hbw⟩ := hrel
                have hBw := B1.trans (hbw.mono B1.size)
                by_cases hlt : k < r.length
                · have hx := List.getElem?_eq_getElem (l := r) hlt
                  generalize r[k] = x at hx
                  obtain ⟨g, off, rfl, -, hc⟩ := val_at HV.out rfl hx
                  obtain ⟨d1, d2, d3⟩ := hc _ hBw
                  have hlt2 : k < t.length := by omega
                  obtain ⟨bt, ot, hAt, -, hct⟩ := int_at HTT.out rfl hlt2
                  have hbw2 := hbw.alloc hbw.size (.cells #[.int .i64 x.k, .int .i64 x.n, .string x.s] 79)
                  have hBw2 := B1.trans (hbw2.mono B1.size)
                  have d4 := hct _ hBw2
                  have gt : t[k]? = some (t.getD k 0) := by simp [hlt2]
                  generalize t.getD k 0 = y at d4 gt
                  have HG := Lib.hid (show (t.zip r)[k]? = some (y, x) from by rw [List.getElem?_zip_eq_some]; exact ⟨gt, hx⟩)
                  have HFO := Lib.hid (show fitOne (y, x) = (x.k == 0 || x.k == y) from rfl)
                  clear hx hc hct gt
                  subst hAt
                  have k0 : (0 : Int) ≤ (k : Int) := by omega
                  have k1 : (k : Int) < (t.length : Int) := by omega
                  cases hq : (x.k == 0)
                  · have hq2 := bne_of hq
                    simp only [Bool.not_false] at hq2
                    cases hz : (x.k == y)
                    · have hz2 := bne_of hz
                      simp only [Bool.not_false] at hz2
                      have e1 := Lib.hid (all_no (f := fitOne) HG.out (by rw [HFO.out, hq, hz]; rfl))
                      have EE : Hid (R = 5) := Lib.hid (by rw [HE5.out, e1.out]; rfl)
                      go_wp2_with fail
                      go_quiet (fail)
                      go_wp2
                      go_ret
                      exact ⟨ret_int (by rw [EE.out]), below_drewN hBw2 _⟩
                    · have hz2 := bne_of hz
                      simp only [Bool.not_true] at hz2
                      have e1 := Lib.hid (all_step (f := fitOne) H.out HG.out (by rw [HFO.out, hz, Bool.or_true]))
                      go_wp2_with fail
                      go_quiet (fail)
                      go_wp2
                      go_roundw
                      case rel => exact ⟨k + 1, by omega, by go_num, e1.out, below_drewN hbw2 _⟩
                      case measure => simp [intOf]; omega
                  · have hq2 := bne_of hq
                    simp only [Bool.not_true] at hq2
                    have e1 := Lib.hid (all_step (f := fitOne) H.out HG.out (by rw [HFO.out, hq, Bool.true_or]))
                    go_wp2_with fail
                    go_quiet (fail)
                    go_wp2
                    go_roundw
                    case rel => exact ⟨k + 1, by omega, by go_num, e1.out, below_drewN hbw2 _⟩
                    case measure => simp [intOf]; omega
                · obtain rfl : k = r.length := by omega
                  have e1 := Lib.hid (show allB fitOne (t.zip r) = true from all_yes (by
                    have hzl : (t.zip r).length = r.length := by rw [List.length_zip]; omega
                    rw [hzl]; exact H.out))
                  have EE : Hid (R = 0) := Lib.hid (by rw [HE5.out, e1.out]; rfl)
                  go_wp2
                  go_ret
                  exact ⟨ret_int (by rw [EE.out]), hBw⟩
        · have EE : Hid (R = 2) := Lib.hid (HE3.out.trans (if_neg hlen))
          have b2 : ((r.length : Int) == (t.length : Int)) = false := by simp; omega
          have b2' := bne_of b2
          simp only [Bool.not_false] at b2'
          clear HE3 hlen
          go_wp2
          go_ret
          exact ⟨ret_int (by rw [EE.out]), B1⟩
      · have b1 := beqF hs1
        have b1b := beqF hs2
        have EE : Hid (R = 4) := Lib.hid (HE2.out.trans (if_neg (by rintro (h | h); exact hs1 h; exact hs2 h)))
        clear HE2 HS HS' hs1 hs2
        go_enter Tryd.func22, Tryd.ntmps22
        go_wp2_with fail
        refine (HC.out _ hB).mono ?_
        rintro e w1 ⟨rfl, hb1⟩
        have y6 := (K1.below hb1).cell 6 _ rfl
        go_wp2
        go_ret
        exact ⟨ret_int (by rw [EE.out]), below_trans hB hb1⟩
  · have HE2 := Lib.hid (HE.out.trans (if_neg hq))
    have hb := beqF hq
    have hb' := bne_of hb
    simp only [Bool.not_false] at hb'
    clear HE HOK hq
    go_enter Tryd.func22, Tryd.ntmps22
    go_wp2_with fail
    refine (HC.out _ hB).mono ?_
    rintro e w1 ⟨rfl, hb1⟩
    go_wp2
    go_ret
    exact ⟨ret_int (by rw [HE2.out]), below_trans hB hb1⟩

end Go.Proofs.YtelmlagolmabpaaDoor
