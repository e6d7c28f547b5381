/-
  May it be an entry? In the program and in the reference.
-/
import Derived.Test.YteabfalklgffmaaDoorBuf2
import Derived.Test.YteabfalklgffmaaDoorBufM1
set_option linter.unusedSimpArgs false
set_option linter.unusedVariables false
namespace Go.Proofs.YteabfalklgffmaaDoor
open Go.RowKit
open tm (fitsB fits_any rfits_any)

theorem back_some (l : List UInt8) : ((backR l).2 == 0) = (decG 8 l).isSome := by
  unfold backR
  cases decG 8 l <;> rfl
theorem fitsB_in (t : Int) : fitsB t = inB t (-1099511627776) 1099511627776 := rfl
theorem keyR_err (l : List Val) : (keyR l).2 = keyErr l := by
  unfold keyR
  split
  · rfl
  · rename_i h; simpa using (Classical.not_not.1 h).symm

set_option maxHeartbeats 2000000 in
set_option maxRecDepth 10000 in
theorem fine_ent (x : Ent) (w : World) (hs : Sl w x.v x.e.r.length (rowCells x.e.r)) (hf : FineE x.e) (hm : Mx w) :
    Calls Tryd.prog 17 #[x.agg] w fun e w' => e = .returned (.bool (okE x.e)) ∧ Below w.heap.size w w' := by
  have HS := Lib.hid hs
  have HF := Lib.hid hf
  have HM := Lib.hid hm
  have HO : Hid (okE x.e = ((keyErr x.e.r == 0) && ((backR x.e.key).2 == 0) && inB x.e.t (-1099511627776) 1099511627776 && inB x.e.s 0 1099511627776)) := Lib.hid rfl
  have ht := hf.time
  have hq := hf.seq
  obtain ⟨xv, ⟨xk, xt, xs, xr, xm⟩⟩ := x
  unfold Ent.agg
  simp only at hs HS HF HO ht hq ⊢
  generalize okE ⟨xk, xt, xs, xr, xm⟩ = c at HO ⊢
  obtain ⟨A, cp, rfl, -⟩ := id hs
  clear hs hf hm
  have HK := Lib.hid (Blk.new w 28 #[.string (str xk), .int .i64 xt, .int .i64 xs, .slice A xr.length cp, .bool xm])
  have hB := below_alloc w (.cells #[.string (str xk), .int .i64 xt, .int .i64 xs, .slice A xr.length cp, .bool xm] 28)
  have hkl : (str xk).size ≤ 4611686018427387904 := by rw [str_size]; have h : xk.length ≤ 140737488351232 := HF.out.key; omega
  have HX := Lib.hid (keyR_err xr)
  have HY := Lib.hid (show (backR (str xk).toList).2 = (backR xk).2 by rw [str_toList])
  go_enter Tryd.func17, Tryd.ntmps17
  go_wp2_with fail
  refine (key_any _ xr _ (HS.out.below hB) HF.out.row (HM.out.below hB)).mono ?_
  rw [HX.out]
  rintro e w1 ⟨rfl, hb1⟩
  have hB1 := below_trans hB hb1
  have K1 := HK.out.below hb1
  have y0 := K1.cell 0 _ rfl
  have HK1 := Lib.hid K1
  clear K1 hb1
  go_wp2_with fail
  refine (back_any2 _ _ hkl).mono ?_
  rw [HY.out]
  rintro e w2 ⟨vb, rfl, -, -, hb2⟩
  have hB2 := below_trans hB1 hb2
  have K2 := HK1.out.below hb2
  have z1 := K2.cell 1 _ rfl
  have z2 := K2.cell 2 _ rfl
  clear y0 hb2 K2
  generalize keyErr xr = a at HO
  generalize (backR xk).2 = b at HO
  by_cases ha : a = 0
  · by_cases hb : b = 0
    · subst ha hb
      by_cases h1 : -1099511627776 ≤ xt ∧ xt ≤ 1099511627776
      · have hfi : fitsB xt = true := tm.fits_yes h1.1 h1.2
        by_cases h2 : 0 ≤ xs
        · by_cases h3 : xs ≤ 1099511627776
          · have EE := Lib.hid (show c = true by rw [HO.out, inB_yes h1.1 h1.2, inB_yes h2 h3]; rfl)
            clear HO
            go_wp2_with (go_at_call 41; refine (fits_any _ _).mono ?_; rw [hfi]; rintro e w3 ⟨rfl, rfl⟩)
            go_ret
            exact ⟨by rw [EE.out]; rfl, hB2⟩
          · have EE := Lib.hid (show c = false by rw [HO.out, inB_no (n := xs) (by omega), Bool.and_false])
            have h3b : decide (xs ≤ 1099511627776) = false := decide_eq_false h3
            clear HO
            go_wp2_with (go_at_call 41; refine (fits_any _ _).mono ?_; rw [hfi]; rintro e w3 ⟨rfl, rfl⟩)
            go_ret
            exact ⟨by rw [EE.out]; rfl, hB2⟩
        · have EE := Lib.hid (show c = false by rw [HO.out, inB_no (n := xs) (by omega), Bool.and_false])
          clear HO
          go_wp2_with (go_at_call 41; refine (fits_any _ _).mono ?_; rw [hfi]; rintro e w3 ⟨rfl, rfl⟩)
          go_ret
          exact ⟨by rw [EE.out]; rfl, hB2⟩
      · have hfi : fitsB xt = false := by rw [fitsB_in, inB_no (by omega)]
        have EE := Lib.hid (show c = false by rw [HO.out, inB_no (n := xt) (by omega)]; simp)
        clear HO
        go_wp2_with (go_at_call 41; refine (fits_any _ _).mono ?_; rw [hfi]; rintro e w3 ⟨rfl, rfl⟩)
        go_ret
        exact ⟨by rw [EE.out]; rfl, hB2⟩
    · have hb' := beqF hb
      have EE := Lib.hid (show c = false by rw [HO.out, hb']; simp)
      subst ha
      clear HO hb
      go_wp2
      go_ret
      exact ⟨by rw [EE.out]; rfl, hB2⟩
  · have ha' := beqF ha
    have EE := Lib.hid (show c = false by rw [HO.out, ha']; simp)
    clear HO ha
    go_wp2
    go_ret
    exact ⟨by rw [EE.out]; rfl, hB2⟩

set_option maxHeartbeats 2000000 in
set_option maxRecDepth 10000 in
theorem rfine_ent (x : Ent) (w : World) (hs : Sl w x.v x.e.r.length (rowCells x.e.r)) (hf : FineE x.e) :
    Calls Tryd.prog 29 #[x.agg] w fun e w' => e = .returned (.bool (okE x.e)) ∧ Below w.heap.size w w' := by
  have HS := Lib.hid hs
  have HF := Lib.hid hf
  have HO : Hid (okE x.e = ((keyErr x.e.r == 0) && (decG 8 x.e.key).isSome && inB x.e.t (-1099511627776) 1099511627776 && inB x.e.s 0 1099511627776)) := Lib.hid (by rw [← back_some]; rfl)
  have ht := hf.time
  have hq := hf.seq
  obtain ⟨xv, ⟨xk, xt, xs, xr, xm⟩⟩ := x
  unfold Ent.agg
  simp only at hs HS HF HO ht hq ⊢
  generalize okE ⟨xk, xt, xs, xr, xm⟩ = c at HO ⊢
  obtain ⟨A, cp, rfl, -⟩ := id hs
  clear hs hf
  have HK := Lib.hid (Blk.new w 28 #[.string (str xk), .int .i64 xt, .int .i64 xs, .slice A xr.length cp, .bool xm])
  have hB := below_alloc w (.cells #[.string (str xk), .int .i64 xt, .int .i64 xs, .slice A xr.length cp, .bool xm] 28)
  have hkl : (str xk).size ≤ 140737488355328 := by rw [str_size]; have h : xk.length ≤ 140737488351232 := HF.out.key; omega
  have HY := Lib.hid (show decG 8 (str xk).toList = decG 8 xk by rw [str_toList])
  by_cases h1 : -1099511627776 ≤ xt ∧ xt ≤ 1099511627776
  · have hfi : fitsB xt = true := tm.fits_yes h1.1 h1.2
    by_cases h2 : 0 ≤ xs
    · by_cases h3 : xs ≤ 1099511627776
      · have HO2 : Hid (c = ((keyErr xr == 0) && (decG 8 xk).isSome)) := Lib.hid (by rw [HO.out, inB_yes h1.1 h1.2, inB_yes h2 h3]; simp)
        clear HO
        go_enter Tryd.func29, Tryd.ntmps29
        go_wp2_with (go_at_call 49; refine (rfits_any _ _).mono ?_; rw [hfi]; rintro e w3 ⟨rfl, rfl⟩)
        refine (keyError_any _ xr _ (HS.out.below hB) HF.out.row.small).mono ?_
        rintro e w1 ⟨rfl, hb1⟩
        have hB1 := below_trans hB hb1
        have y0 := (HK.out.below hb1).cell 0 _ rfl
        clear hb1
        generalize keyErr xr = a at HO2
        by_cases ha : a = 0
        · subst ha
          have EE := Lib.hid (show c = (decG 8 xk).isSome by rw [HO2.out]; simp)
          clear HO2
          go_wp2_with fail
          refine (rback_any _ _ hkl).mono ?_
          rw [HY.out]
          rintro e w2 ⟨vb, rfl, -, hb2⟩
          have hB2 := below_trans hB1 hb2
          go_wp2
          go_ret
          exact ⟨by rw [EE.out]; rfl, hB2⟩
        · have ha' := beqF ha
          have EE := Lib.hid (show c = false by rw [HO2.out, ha']; simp)
          have ha2 := bneT ha
          clear HO2 ha
          go_wp2
          go_ret
          exact ⟨by rw [EE.out]; rfl, hB1⟩
      · have EE := Lib.hid (show c = false by rw [HO.out, inB_no (n := xs) (by omega), Bool.and_false])
        clear HO
        go_enter Tryd.func29, Tryd.ntmps29
        go_wp2_with (go_at_call 49; refine (rfits_any _ _).mono ?_; rw [hfi]; rintro e w3 ⟨rfl, rfl⟩)
        go_ret
        exact ⟨by rw [EE.out]; rfl, hB⟩
    · have EE := Lib.hid (show c = false by rw [HO.out, inB_no (n := xs) (by omega), Bool.and_false])
      clear HO
      go_enter Tryd.func29, Tryd.ntmps29
      go_wp2_with (go_at_call 49; refine (rfits_any _ _).mono ?_; rw [hfi]; rintro e w3 ⟨rfl, rfl⟩)
      go_ret
      exact ⟨by rw [EE.out]; rfl, hB⟩
  · have hfi : fitsB xt = false := by rw [fitsB_in, inB_no (by omega)]
    have EE := Lib.hid (show c = false by rw [HO.out, inB_no (n := xt) (by omega)]; simp)
    clear HO
    go_enter Tryd.func29, Tryd.ntmps29
    go_wp2_with (go_at_call 49; refine (rfits_any _ _).mono ?_; rw [hfi]; rintro e w3 ⟨rfl, rfl⟩)
    go_ret
    exact ⟨by rw [EE.out]; rfl, hB⟩
end Go.Proofs.YteabfalklgffmaaDoor
