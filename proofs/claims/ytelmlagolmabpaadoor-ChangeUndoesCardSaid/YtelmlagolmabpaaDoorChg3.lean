/-
  Views: the walks of Check, and of the reference's CheckView.
-/
import Derived.Test.YtelmlagolmabpaaDoorChg2
set_option linter.unusedSimpArgs false
set_option linter.unusedVariables false
namespace Go.Proofs.YtelmlagolmabpaaDoor
open Go.RowKit

set_option maxHeartbeats 8000000 in
set_option maxRecDepth 10000 in
theorem checkView_any (v : Value) (l : List Cnt) (w : World) (h : View w v l) (hf : FineV l) (hm : Mx w) :
    Calls Tryd.prog 42 #[v] w fun e w' => e = .returned (.int .i64 (chkV l)) ∧ Below w.heap.size w w' := by
  have HV := Lib.hid h
  have HF := Lib.hid hf
  have HM := Lib.hid hm
  obtain ⟨A, c, rfl, h1, h2, -⟩ := h.sl
  clear h hf hm
  unfold maxLen at h2
  by_cases hn : 4096 < l.length
  · have e1 := Lib.hid (show chkV l = 2 from if_pos hn)
    go_enter Tryd.func42, Tryd.ntmps42
    go_wp2
    go_ret
    exact ⟨ret_int (by rw [e1.out]), Below.refl _ _⟩
  · have HBAD := Lib.hid (fun k => chk_bad (l := l) (k := k) hn)
    have HGOOD := Lib.hid (chk_good (l := l) hn)
    generalize chkV l = R at HBAD HGOOD ⊢
    go_enter Tryd.func42, Tryd.ntmps42
    go_wp2_with fail
    go_loopw [3, 4, 5, 6, 7, 13] (fun last _ _ _ _ i wr => ∃ k : Nat, k ≤ l.length ∧ i = .int .i64 k ∧ last = .string (lastKey l k) ∧ Hid (∀ j ∈ (List.range l.length).take k, okAt l j = true) ∧ Below w.heap.size w wr) (fun _ _ _ _ _ i _ => l.length - (intOf i).toNat)
    case atStart => exact ⟨0, by omega, rfl, rfl, by simp [Hid], Below.refl _ _⟩
    case round =>
      obtain ⟨k, hk, rfl, rfl, H, hbw⟩ := hrel
      by_cases hlt : k < l.length
      · have hx := List.getElem?_eq_getElem (l := l) hlt
        generalize l[k] = x at hx
        obtain ⟨g, off, rfl, -, hc⟩ := cnt_at HV.out.sl rfl hx
        obtain ⟨d1, d2⟩ := hc _ hbw
        have hmem := List.mem_of_getElem? hx
        have HRW := Lib.hid (HV.out.rows x hmem)
        have HFX := Lib.hid (HF.out.rows x hmem)
        have hxn := HF.out.nums x hmem
        have HX := Lib.hid hx
        clear hx hc hmem
        obtain ⟨xv, xr, xn⟩ := x
        simp only at d1 d2 HRW HFX hxn
        obtain ⟨Ax, cx, rfl, -⟩ := id HRW.out
        have hbw2 := hbw.alloc hbw.size (.cells #[.slice Ax xr.length cx, .int .i64 xn] 99)
        have HSX := Lib.hid (HRW.out.below hbw2)
        have kb := (Blk.new wr 99 #[.slice Ax xr.length cx, .int .i64 xn])
        generalize hla : lastKey l k = la
        have HLA := Lib.hid hla
        clear hla
        by_cases hq : keyErr xr = 0
        · have HKE : Hid (keyR xr = (str (keyRow xr), 0)) := Lib.hid (if_neg (by rw [hq]; simp))
          have HGX := Lib.hid (goodR_of HFX.out hq)
          have hokc : okC ⟨.slice Ax xr.length cx, xr, xn⟩ = btw xn 1 1073741824 := by simp [okC, hq]
          have hD : xn < 1 ∨ (1 ≤ xn ∧ 1073741824 < xn) ∨ (1 ≤ xn ∧ xn ≤ 1073741824) := by omega
          have HNL : Hid (lastKey l (k + 1) = str (keyRow xr)) := Lib.hid (by simp [lastKey, HX.out])
          rcases hD with hn1 | ⟨hn1, hn2⟩ | ⟨hn1, hn2⟩
          · have HB0 := Lib.hid (btw_no (n := xn) (lo := 1) (hi := 1073741824) (by omega))
            have EE := Lib.hid (HBAD.out k hlt (by cases k with | zero => rw [okAt_zero HX.out, hokc, HB0.out] | succ k => rw [okAt_succ HX.out (List.getElem?_eq_getElem (show k < l.length by omega)), hokc, HB0.out]; rfl))
            clear HGX hokc HNL HB0
            go_wp2_with fail
            refine (key_any _ xr _ HSX.out HFX.out (HM.out.below hbw2)).mono ?_
            rw [HKE.out]
            rintro e w2 ⟨rfl, hb2⟩
            have y1 := (kb.below hb2).cell 1 _ rfl
            have hbw3 := below_trans hbw2 hb2
            go_wp2
            go_ret
            exact ⟨ret_int (by rw [EE.out]), hbw3⟩
          · have HB0 := Lib.hid (btw_no (n := xn) (lo := 1) (hi := 1073741824) (by omega))
            have EE := Lib.hid (HBAD.out k hlt (by cases k with | zero => rw [okAt_zero HX.out, hokc, HB0.out] | succ k => rw [okAt_succ HX.out (List.getElem?_eq_getElem (show k < l.length by omega)), hokc, HB0.out]; rfl))
            clear HGX hokc HNL HB0
            go_wp2_with fail
            refine (key_any _ xr _ HSX.out HFX.out (HM.out.below hbw2)).mono ?_
            rw [HKE.out]
            rintro e w2 ⟨rfl, hb2⟩
            have y1 := (kb.below hb2).cell 1 _ rfl
            have hbw3 := below_trans hbw2 hb2
            go_wp2
            go_ret
            exact ⟨ret_int (by rw [EE.out]), hbw3⟩
          · have HB0 := Lib.hid (btw_yes hn1 hn2)
            rcases Nat.eq_zero_or_pos k with hk0 | hpos
            · have hno : ¬ (0 : Int) < (k : Int) := by omega
              have hox : okAt l k = okC ⟨.slice Ax xr.length cx, xr, xn⟩ := by have := HX.out; rw [hk0] at this ⊢; exact okAt_zero this
              have HZ : Hid (∀ j ∈ (List.range l.length).take (k + 1), okAt l j = true) := Lib.hid (all_step (f := okAt l) H.out (range_at hlt) (by rw [hox, hokc, HB0.out]))
              clear hox hk0
              clear HGX hokc HB0
              go_wp2_with fail
              refine (key_any _ xr _ HSX.out HFX.out (HM.out.below hbw2)).mono ?_
              rw [HKE.out]
              rintro e w2 ⟨rfl, hb2⟩
              have y1 := (kb.below hb2).cell 1 _ rfl
              have hbw3 := below_trans hbw2 hb2
              go_wp2
              go_roundw
              case rel => exact ⟨k + 1, by omega, by go_num, by rw [HNL.out], HZ.out, hbw3⟩
              case measure => simp [intOf]; omega
            · obtain ⟨k, rfl⟩ : ∃ m, k = m + 1 := ⟨k - 1, by omega⟩
              have hkl : k < l.length := by omega
              have hd := List.getElem?_eq_getElem hkl
              generalize l[k] = d at hd
              have HGD : Hid (GoodR d.r) := by
                have := H.out k (by rw [List.mem_take_iff_getElem]; exact ⟨k, by simp; omega, by simp⟩)
                have hck : okC d = true := by
                  cases k with
                  | zero => rw [okAt_zero hd] at this; exact this
                  | succ k => rw [okAt_succ hd (List.getElem?_eq_getElem (show k < l.length by omega)), Bool.and_eq_true] at this; exact this.1
                unfold okC at hck
                rw [Bool.and_eq_true, beq_iff_eq] at hck
                exact Lib.hid (goodR_of (HF.out.rows d (List.mem_of_getElem? hd)) hck.1)
              have HLK : Hid (la = str (keyRow d.r)) := Lib.hid (by rw [← HLA.out]; simp [lastKey, hd])
              have l1 : Op.bytesLess (str (keyRow xr)).toList la.toList = decide (rowsF xr d.r < 0) := by rw [HLK.out]; exact str_less HGX.out HGD.out
              have l2 : ((str (keyRow xr)).toList == la.toList) = decide (rowsF xr d.r = 0) := by rw [HLK.out]; exact str_same HGX.out HGD.out
              have hpos' : (0 : Int) < ((k + 1 : Nat) : Int) := by omega
              have HFL := Lib.hid (rowsF_flip HGX.out HGD.out)
              have HOK := Lib.hid (okAt_succ HX.out hd)
              clear hd
              have hD : rowsF xr d.r < 0 ∨ rowsF xr d.r = 0 ∨ 0 < rowsF xr d.r := by omega
              rcases hD with hs | hs | hs
              · rw [decide_eq_true hs] at l1
                rw [decide_eq_false (by omega)] at l2
                have EE := Lib.hid (HBAD.out (k + 1) hlt (by rw [HOK.out, HFL.out, decide_eq_false (by omega), Bool.and_false]))
                generalize str (keyRow xr) = sx at HKE l1 l2
                clear HGX hokc HNL HB0 hs HLK HFL HOK
                go_wp2_with fail
                refine (key_any _ xr _ HSX.out HFX.out (HM.out.below hbw2)).mono ?_
                rw [HKE.out]
                rintro e w2 ⟨rfl, hb2⟩
                have y1 := (kb.below hb2).cell 1 _ rfl
                have hbw3 := below_trans hbw2 hb2
                go_wp2
                go_ret
                exact ⟨ret_int (by rw [EE.out]), hbw3⟩
              · rw [decide_eq_false (by omega)] at l1
                rw [decide_eq_true hs] at l2
                have EE := Lib.hid (HBAD.out (k + 1) hlt (by rw [HOK.out, HFL.out, decide_eq_false (by omega), Bool.and_false]))
                generalize str (keyRow xr) = sx at HKE l1 l2
                clear HGX hokc HNL HB0 hs HLK HFL HOK
                go_wp2_with fail
                refine (key_any _ xr _ HSX.out HFX.out (HM.out.below hbw2)).mono ?_
                rw [HKE.out]
                rintro e w2 ⟨rfl, hb2⟩
                have y1 := (kb.below hb2).cell 1 _ rfl
                have hbw3 := below_trans hbw2 hb2
                go_wp2
                go_ret
                exact ⟨ret_int (by rw [EE.out]), hbw3⟩
              · rw [decide_eq_false (by omega)] at l1
                rw [decide_eq_false (by omega)] at l2
                have HZ : Hid (∀ j ∈ (List.range l.length).take (k + 1 + 1), okAt l j = true) := Lib.hid (all_step (f := okAt l) H.out (range_at hlt) (by rw [HOK.out, hokc, HB0.out, HFL.out, decide_eq_true (by omega)]; rfl))
                generalize str (keyRow xr) = sx at HKE l1 l2 HNL
                clear HGX hokc HB0 hs HLK HFL HOK
                go_wp2_with fail
                refine (key_any _ xr _ HSX.out HFX.out (HM.out.below hbw2)).mono ?_
                rw [HKE.out]
                rintro e w2 ⟨rfl, hb2⟩
                have y1 := (kb.below hb2).cell 1 _ rfl
                have hbw3 := below_trans hbw2 hb2
                go_wp2
                go_roundw
                case rel => exact ⟨k + 1 + 1, by omega, by go_num, by rw [HNL.out], HZ.out, hbw3⟩
                case measure => simp [intOf]; omega
        · have HKE : Hid (keyR xr = (⟨#[]⟩, keyErr xr)) := Lib.hid (if_pos hq)
          have hb' := bneT hq
          have EE := Lib.hid (HBAD.out k hlt (by
            have hc0 : okC ⟨.slice Ax xr.length cx, xr, xn⟩ = false := by simp [okC, hq]
            cases k with
            | zero => rw [okAt_zero HX.out, hc0]
            | succ k => rw [okAt_succ HX.out (List.getElem?_eq_getElem (show k < l.length by omega)), hc0]; rfl))
          clear hq
          go_wp2_with fail
          refine (key_any _ xr _ HSX.out HFX.out (HM.out.below hbw2)).mono ?_
          rw [HKE.out]
          rintro e w2 ⟨rfl, hb2⟩
          have y1 := (kb.below hb2).cell 1 _ rfl
          have hbw3 := below_trans hbw2 hb2
          go_wp2
          go_ret
          exact ⟨ret_int (by rw [EE.out]), hbw3⟩
      · obtain rfl : k = l.length := by omega
        have EE := Lib.hid (HGOOD.out H.out)
        generalize lastKey l l.length = la
        go_wp2
        go_ret
        exact ⟨ret_int (by rw [EE.out]), hbw⟩

end Go.Proofs.YtelmlagolmabpaaDoor
