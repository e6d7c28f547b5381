/-
  The laws ChangeAdds and ChangeFolds.
-/
import Derived.Test.YtelmlagolmabpaaDoorChg24
import Derived.Test.YtelmlagolmabpaaDoorChgM5
import Derived.Test.YtelmlagolmabpaaDoorChg4
import Derived.Test.YtelmlagolmabpaaDoorChg7
import Derived.Test.YtelmlagolmabpaaDoorChgM6
set_option linter.unusedSimpArgs false
set_option linter.unusedVariables false
namespace Go.Proofs.YtelmlagolmabpaaDoor
open Go.RowKit Go.Maps

set_option maxHeartbeats 4000000 in
set_option maxRecDepth 10000 in
theorem changeAdds_walk (v vr : Value) (l : List Cnt) (r : List Val) (n : Int) (w : World) (h : View w v l) (hf : FineV l) (hs : Sl w vr r.length (rowCells r)) (hfr : Fine r) (hn : -9223372036854775808 ≤ n ∧ n ≤ 9223372036854775807) (hm : Mx w) :
    Calls Tryd.prog 11 #[v, vr, .int .i64 n] w fun e w' => e = .returned (.bool true) ∧ Below w.heap.size w w' := by
  have HM := Lib.hid hm
  have HA := Lib.hid (cadd_any v vr l r n w h hf hs hfr hn hm)
  have HR := Lib.hid (fun w' (hb : Below w.heap.size w w') => radd_any v vr l r n w' (h.below hb) hf (hs.below hb) hfr hn)
  have HC := Lib.hid (fun w' (hb : Below w.heap.size w w') => checkView_any v l w' (h.below hb) hf (hm.below hb))
  have HD := Lib.hid (fun w' (hb : Below w.heap.size w w') => rcheckView_any v l w' (h.below hb) hf)
  clear h hf hs hfr hn hm
  generalize addS l r n = S at HA HR
  generalize chkV l = C at HC HD
  obtain ⟨SA, SE⟩ := S
  have e0 : (C == C) = true := by simp
  have e1 : (SE == SE) = true := by simp
  go_enter Tryd.func11, Tryd.ntmps11
  go_wp2_with fail
  refine HA.out.mono ?_
  rintro e w1 ⟨v1, l1, rfl, hV1, ha1, hb1⟩
  have HV1 := Lib.hid hV1
  have HA1 := Lib.hid ha1
  clear hV1 ha1
  go_wp2_with fail
  refine (HR.out _ hb1).mono ?_
  rintro e w2 ⟨v2, l2, rfl, hV2, ha2, hb2⟩
  have B2 := below_trans hb1 hb2
  have HV12 := Lib.hid (HV1.out.below hb2)
  have HV2 := Lib.hid hV2
  have HAA := Lib.hid (HA1.out.trans ha2.symm)
  clear hV2 ha2 hb1 hb2 HV1 HA1
  go_wp2_with fail
  refine (changeBegun_any _ (HM.out.below B2)).mono ?_
  rintro e w3 ⟨rfl, hb3⟩
  have B3 := below_trans B2 hb3
  have b3 := hb3
  clear hb3
  go_wp2_with fail
  refine (HC.out _ B3).mono ?_
  rintro e w4 ⟨rfl, hb4⟩
  have B4 := below_trans B3 hb4
  have b4 := below_trans b3 hb4
  clear hb4 b3 B3
  go_wp2_with fail
  refine (HD.out _ B4).mono ?_
  rintro e w5 ⟨rfl, hb5⟩
  have B5 := below_trans B4 hb5
  have b5 := below_trans b4 hb5
  clear hb5 b4 B4
  go_wp2_with fail
  refine (sameViews_any v1 v2 l1 l2 _ (HV12.out.below b5) (HV2.out.below b5) HAA.out).mono ?_
  rintro e w6 ⟨rfl, hb6⟩
  have B6 := below_trans B5 hb6
  clear hb6
  go_wp2
  go_ret
  exact ⟨rfl, B6⟩

set_option maxHeartbeats 4000000 in
set_option maxRecDepth 10000 in
theorem changeFolds_walk (v vm : Value) (l : List Cnt) (m : List Chn) (w : World) (h : View w v l) (hf : FineV l) (hs : Chs w vm m) (hfm : FineC m) (hm : Mx w) :
    Calls Tryd.prog 7 #[v, vm] w fun e w' => e = .returned (.bool true) ∧ Below w.heap.size w w' := by
  have HM := Lib.hid hm
  have HA := Lib.hid (cfold_any v vm l m w h hf hs hfm hm)
  have HR := Lib.hid (fun w' (hb : Below w.heap.size w w') => rfold_any v vm l m w' (h.below hb) hf (hs.below hb) hfm)
  have HC := Lib.hid (fun w' (hb : Below w.heap.size w w') => cform_any vm m w' (hs.below hb) hfm (hm.below hb))
  have HD := Lib.hid (fun w' (hb : Below w.heap.size w w') => crform_any vm m w' (hs.below hb) hfm)
  clear h hf hs hfm hm
  generalize foldS l m = S at HA HR
  generalize formC m = C at HC HD
  obtain ⟨SA, SP, SE⟩ := S
  have e0 : (C == C) = true := by simp
  have e1 : (SE == SE) = true := by simp
  have e2 : (SP == SP) = true := by simp
  go_enter Tryd.func7, Tryd.ntmps7
  go_wp2_with fail
  refine HA.out.mono ?_
  rintro e w1 ⟨v1, l1, rfl, hV1, ha1, hb1⟩
  have HV1 := Lib.hid hV1
  have HA1 := Lib.hid ha1
  clear hV1 ha1
  go_wp2_with fail
  refine (HR.out _ hb1).mono ?_
  rintro e w2 ⟨v2, l2, rfl, hV2, ha2, hb2⟩
  have B2 := below_trans hb1 hb2
  have HV12 := Lib.hid (HV1.out.below hb2)
  have HV2 := Lib.hid hV2
  have HAA := Lib.hid (HA1.out.trans ha2.symm)
  clear hV2 ha2 hb1 hb2 HV1 HA1
  go_wp2_with fail
  refine (changeBegun_any _ (HM.out.below B2)).mono ?_
  rintro e w3 ⟨rfl, hb3⟩
  have B3 := below_trans B2 hb3
  have b3 := hb3
  clear hb3
  go_wp2_with fail
  refine (HC.out _ B3).mono ?_
  rintro e w4 ⟨rfl, hb4⟩
  have B4 := below_trans B3 hb4
  have b4 := below_trans b3 hb4
  clear hb4 b3 B3
  go_wp2_with fail
  refine (HD.out _ B4).mono ?_
  rintro e w5 ⟨rfl, hb5⟩
  have B5 := below_trans B4 hb5
  have b5 := below_trans b4 hb5
  clear hb5 b4 B4
  go_wp2_with fail
  refine (sameViews_any v1 v2 l1 l2 _ (HV12.out.below b5) (HV2.out.below b5) HAA.out).mono ?_
  rintro e w6 ⟨rfl, hb6⟩
  have B6 := below_trans B5 hb6
  clear hb6
  go_wp2
  go_ret
  exact ⟨rfl, B6⟩
end Go.Proofs.YtelmlagolmabpaaDoor
