/-
  Plans: the reference's RowError.
-/
import Derived.Test.YtelmlagolmabpaaDoorPlan15
set_option linter.unusedSimpArgs false
set_option linter.unusedVariables false
namespace Go.Proofs.YtelmlagolmabpaaDoor
open Go.RowKit Go.Maps

set_option maxHeartbeats 8000000 in
set_option maxRecDepth 10000 in
theorem fitsTypes_any (vt v : Value) (t : List Int) (r : List Val) (w : World) (ht : Sl w vt t.length (intCells t)) (hr : Sl w v r.length (rowCells r)) (hl : r.length = t.length) :
    Calls Tryd.prog 65 #[vt, v] w fun e w' => e = .returned (.int .i64 (if allB fitOne (t.zip r) then 0 else 5)) ∧ Below w.heap.size w w' := by
  have HTT := Lib.hid ht
  have HV := Lib.hid hr
  obtain ⟨A0, c0, rfl, n0, m0, -⟩ := ht
  obtain ⟨A, c, rfl, n2, m2, -⟩ := hr
  unfold maxLen at m0 m2
  obtain ⟨R, hR⟩ : ∃ R : Int, R = if allB fitOne (t.zip r) then 0 else 5 := ⟨_, rfl⟩
  rw [← hR]
  have HR := Lib.hid hR
  have b2 : ((r.length : Int) == (t.length : Int)) = true := by simp [hl]
  have b2' := bne_of b2
  simp only [Bool.not_true] at b2'
  have HLE := Lib.hid hl
  have hle : r.length ≤ t.length := by omega
  clear hl hR
  go_enter Tryd.func65, Tryd.ntmps65
  go_wp2_with fail
  go_loopw [5] (fun i wr => ∃ k : Nat, k ≤ r.length ∧ i = .int .i64 k ∧ Hid (∀ x ∈ (t.zip r).take k, fitOne x = true) ∧ Below w.heap.size w wr) (fun i _ => r.length - (intOf i).toNat)
  case atStart => exact ⟨0, by omega, rfl, by simp [Hid], Below.refl _ _⟩
  case round =>
    obtain ⟨k, hk, rfl, H, hbw⟩ := hrel
    by_cases hlt : k < r.length
    · have hx := List.getElem?_eq_getElem (l := r) hlt
      generalize r[k] = x at hx
      obtain ⟨g, off, rfl, -, hc⟩ := val_at HV.out rfl hx
      obtain ⟨d1, d2, d3⟩ := hc _ hbw
      have hlt2 : k < t.length := by omega
      obtain ⟨bt, ot, hAt, -, hct⟩ := int_at HTT.out rfl hlt2
      have d4 := hct _ hbw
      have gt : t[k]? = some (t.getD k 0) := by simp [hlt2]
      generalize t.getD k 0 = y at d4 gt
      have HG := Lib.hid (show (t.zip r)[k]? = some (y, x) from by rw [List.getElem?_zip_eq_some]; exact ⟨gt, hx⟩)
      have HFO := Lib.hid (show fitOne (y, x) = (x.k == 0 || x.k == y) from rfl)
      clear hx hc hct gt
      subst hAt
      have k0 : (0 : Int) ≤ (k : Int) := by omega
      have k1 : (k : Int) < (t.length : Int) := by omega
      have k2 : (k : Int) < (r.length : Int) := by omega
      cases hq : (x.k == 0)
      · have hq2 := bne_of hq
        simp only [Bool.not_false] at hq2
        cases hz : (x.k == y)
        · have hz2 := bne_of hz
          simp only [Bool.not_false] at hz2
          have e1 := Lib.hid (all_no (f := fitOne) HG.out (by rw [HFO.out, hq, hz]; rfl))
          have EE : Hid (R = 5) := Lib.hid (by rw [HR.out, e1.out]; rfl)
          go_wp2_with fail
          go_quiet (fail)
          go_wp2
          go_ret
          exact ⟨ret_int (by rw [EE.out]), below_drewN hbw _⟩
        · have hz2 := bne_of hz
          simp only [Bool.not_true] at hz2
          have e1 := Lib.hid (all_step (f := fitOne) H.out HG.out (by rw [HFO.out, hz, Bool.or_true]))
          go_wp2_with fail
          go_quiet (fail)
          go_wp2
          go_roundw
          case rel => exact ⟨k + 1, by omega, by go_num, e1.out, below_drewN hbw _⟩
          case measure => simp [intOf]; omega
      · have hq2 := bne_of hq
        simp only [Bool.not_true] at hq2
        have e1 := Lib.hid (all_step (f := fitOne) H.out HG.out (by rw [HFO.out, hq, Bool.true_or]))
        go_wp2_with fail
        go_quiet (fail)
        go_wp2
        go_roundw
        case rel => exact ⟨k + 1, by omega, by go_num, e1.out, below_drewN hbw _⟩
        case measure => simp [intOf]; omega
    · obtain rfl : k = r.length := by omega
      have e1 := Lib.hid (show allB fitOne (t.zip r) = true from all_yes (by
        have hzl : (t.zip r).length = r.length := by rw [List.length_zip]; omega
        rw [hzl]; exact H.out))
      have EE : Hid (R = 0) := Lib.hid (by rw [HR.out, e1.out]; rfl)
      go_wp2
      go_ret
      exact ⟨ret_int (by rw [EE.out]), hbw⟩

theorem keyErr_few {l : List Val} (h : l.length ≤ 8) : keyErr l = firstNZ (l.map checkV) := if_neg (by omega)

set_option maxHeartbeats 8000000 in
set_option maxRecDepth 10000 in
theorem rowError_any (p : Pl) (side : Int) (v : Value) (r : List Val) (w : World) (h : p.ok w) (hs : p.short) (hr : Sl w v r.length (rowCells r)) (hsm : Small r) :
    Calls Tryd.prog 21 #[.agg #[.int .i64 p.kind, .int .i64 p.mode, .int .i64 p.low, .int .i64 p.high, .int .i64 p.size, .int .i64 p.limit, p.vl, p.vr, p.vk, p.vq, .bool p.grouped, p.vg, p.va], .int .i64 side, v] w fun e w' => e = .returned (.int .i64 (rowE p side r)) ∧ Below w.heap.size w w' := by
  have HE : Hid (rowE p side r = if side = 1 ∨ side = 2 then if r.length = (sideT p side).length then if firstNZ (r.map checkV) = 0 then if allB fitOne ((sideT p side).zip r) then 0 else 5 else firstNZ (r.map checkV) else 2 else 4) := Lib.hid rfl
  obtain ⟨l1, l2, r1, r2, -⟩ := hs
  have HL := Lib.hid h.l
  have HR := Lib.hid h.r
  have HV := Lib.hid hr
  have HSM := Lib.hid hsm
  clear h hsm
  generalize rowE p side r = R at HE ⊢
  have HS : Hid (side = 1 → sideT p side = p.left) := Lib.hid (by rintro rfl; exact side_one p)
  have HS' : Hid (side = 2 → sideT p side = p.right) := Lib.hid (by rintro rfl; exact side_two p)
  generalize sideT p side = t at HE HS HS'
  obtain ⟨kind, mode, low, high, size, limit, vl, vr, vk, vq, grouped, vg, va, left, right, lkeys, rkeys, group, aggs⟩ := p
  simp only at HE HL HR HS HS' l1 l2 r1 r2 ⊢
  obtain ⟨A0, c0, rfl, n0, m0, -⟩ := id HL.out
  obtain ⟨A1, c1, rfl, n1, m1, -⟩ := id HR.out
  obtain ⟨A, c, rfl, n2, m2, -⟩ := hr
  unfold maxLen at m0 m1 m2
  have hB := below_alloc w (.cells #[.int .i64 kind, .int .i64 mode, .int .i64 low, .int .i64 high, .int .i64 size, .int .i64 limit, .slice A0 left.length c0, .slice A1 right.length c1, vk, vq, .bool grouped, vg, va] 25)
  by_cases hs1 : side = 1
  · have b1 := beqT hs1
    have b1' := bne_of b1
    simp only [Bool.not_true] at b1'
    have b1b : (side == 2) = false := beqF (by omega)
    have HE3 := Lib.hid (HE.out.trans (if_pos (.inl hs1)))
    obtain rfl := HS.out hs1
    have HTT := HL
    clear HE HS HS' hs1
    by_cases hlen : r.length = t.length
    · have HE4 := Lib.hid (HE3.out.trans (if_pos hlen))
      have b2 : ((r.length : Int) == (t.length : Int)) = true := by simp [hlen]
      have b2' := bne_of b2
      simp only [Bool.not_true] at b2'
      have HLE := Lib.hid hlen
      have HKE := Lib.hid (keyErr_few (l := r) (by omega))
      clear HE3 hlen
      go_enter Tryd.func21, Tryd.ntmps21
      go_wp2_with fail
      refine (keyError_any _ r _ (HV.out.below hB) HSM.out).mono ?_
      rw [HKE.out]
      rintro e w1 ⟨rfl, hb1⟩
      have B1 := below_trans hB hb1
      by_cases hz : firstNZ (r.map checkV) = 0
      · have HE5 : Hid (R = if allB fitOne (t.zip r) then 0 else 5) := Lib.hid (by rw [HE4.out, hz]; rfl)
        have z1 := beqT hz
        have z2 := bne_of z1
        simp only [Bool.not_true] at z2
        clear HE4 hz
        go_wp2_with fail
        refine (fitsTypes_any _ _ t r _ (HTT.out.below B1) (HV.out.below B1) HLE.out).mono ?_
        rw [← HE5.out]
        rintro e w2 ⟨rfl, hb2⟩
        go_wp2
        go_ret
        exact ⟨rfl, below_trans B1 hb2⟩
      · have EE : Hid (R = firstNZ (r.map checkV)) := Lib.hid (by rw [HE4.out, if_neg hz])
        have z1 := beqF hz
        have z2 := bne_of z1
        simp only [Bool.not_false] at z2
        clear HE4 hz
        go_wp2
        go_ret
        exact ⟨ret_int (by rw [EE.out]), B1⟩
    · have EE : Hid (R = 2) := Lib.hid (HE3.out.trans (if_neg hlen))
      have b2 : ((r.length : Int) == (t.length : Int)) = false := by simp; omega
      have b2' := bne_of b2
      simp only [Bool.not_false] at b2'
      clear HE3 hlen
      go_enter Tryd.func21, Tryd.ntmps21
      go_wp2
      go_ret
      exact ⟨ret_int (by rw [EE.out]), hB⟩
  · by_cases hs2 : side = 2
    · have b1b := beqT hs2
      have HE3 := Lib.hid (HE.out.trans (if_pos (.inr hs2)))
      obtain rfl := HS'.out hs2
      have HTT := HR
      clear HE HS HS' hs1 hs2
      by_cases hlen : r.length = t.length
      · have HE4 := Lib.hid (HE3.out.trans (if_pos hlen))
        have b2 : ((r.length : Int) == (t.length : Int)) = true := by simp [hlen]
        have b2' := bne_of b2
        simp only [Bool.not_true] at b2'
        have HLE := Lib.hid hlen
        have HKE := Lib.hid (keyErr_few (l := r) (by omega))
        clear HE3 hlen
        go_enter Tryd.func21, Tryd.ntmps21
        go_wp2_with fail
        refine (keyError_any _ r _ (HV.out.below hB) HSM.out).mono ?_
        rw [HKE.out]
        rintro e w1 ⟨rfl, hb1⟩
        have B1 := below_trans hB hb1
        by_cases hz : firstNZ (r.map checkV) = 0
        · have HE5 : Hid (R = if allB fitOne (t.zip r) then 0 else 5) := Lib.hid (by rw [HE4.out, hz]; rfl)
          have z1 := beqT hz
          have z2 := bne_of z1
          simp only [Bool.not_true] at z2
          clear HE4 hz
          go_wp2_with fail
          refine (fitsTypes_any _ _ t r _ (HTT.out.below B1) (HV.out.below B1) HLE.out).mono ?_
          rw [← HE5.out]
          rintro e w2 ⟨rfl, hb2⟩
          go_wp2
          go_ret
          exact ⟨rfl, below_trans B1 hb2⟩
        · have EE : Hid (R = firstNZ (r.map checkV)) := Lib.hid (by rw [HE4.out, if_neg hz])
          have z1 := beqF hz
          have z2 := bne_of z1
          simp only [Bool.not_false] at z2
          clear HE4 hz
          go_wp2
          go_ret
          exact ⟨ret_int (by rw [EE.out]), B1⟩
      · have EE : Hid (R = 2) := Lib.hid (HE3.out.trans (if_neg hlen))
        have b2 : ((r.length : Int) == (t.length : Int)) = false := by simp; omega
        have b2' := bne_of b2
        simp only [Bool.not_false] at b2'
        clear HE3 hlen
        go_enter Tryd.func21, Tryd.ntmps21
        go_wp2
        go_ret
        exact ⟨ret_int (by rw [EE.out]), hB⟩
    · have b1 := beqF hs1
      have b1' := bne_of b1
      simp only [Bool.not_false] at b1'
      have b1b := beqF hs2
      have EE : Hid (R = 4) := Lib.hid (HE.out.trans (if_neg (by rintro (h | h); exact hs1 h; exact hs2 h)))
      clear HE HS HS' hs1 hs2
      go_enter Tryd.func21, Tryd.ntmps21
      go_wp2
      go_ret
      exact ⟨ret_int (by rw [EE.out]), hB⟩

end Go.Proofs.YtelmlagolmabpaaDoor
