/-
  The laws ChangeDiffs and ChangeMakes.
-/
import Derived.Test.YtelmlagolmabpaaDoorChg29
import Derived.Test.YtelmlagolmabpaaDoorChg26
import Derived.Test.YtelmlagolmabpaaDoorChgOpen
import Derived.Test.YtelmlagolmabpaaDoorChgM7
set_option linter.unusedSimpArgs false
set_option linter.unusedVariables false
namespace Go.Proofs.YtelmlagolmabpaaDoor
open Go.RowKit Go.Maps

theorem chk_three (l : List Cnt) : chkV l = 0 ∨ chkV l = 1 ∨ chkV l = 2 := by
  unfold chkV
  split
  · exact .inr (.inr rfl)
  · split
    · exact .inl rfl
    · exact .inr (.inl rfl)
theorem diff_cases {a b : List Cnt} (hfa : FineV a) (hfb : FineV b) : ((diffS a b).2 = 0 ∧ GoodA (av a) ∧ GoodA (av b) ∧ (diffS a b).1 = tell (mergeD (av a) (av b)) ∧ (tell (mergeD (av a) (av b))).length ≤ 4096) ∨ (diffS a b).2 = 1 ∨ (diffS a b).2 = 2 := by
  unfold diffS
  by_cases h1 : chkV a = 0
  · rw [if_neg (fun h => h h1)]
    by_cases h2 : chkV b = 0
    · rw [if_neg (fun h => h h2)]
      by_cases h3 : (tell (mergeD (av a) (av b))).length ≤ 4096
      · rw [told_yes h3, if_pos rfl]
        exact .inl ⟨rfl, (chk_zero hfa h1).a, (chk_zero hfb h2).a, rfl, h3⟩
      · rw [told_no (by omega), if_neg (by simp)]
        exact .inr (.inr rfl)
    · rw [if_pos h2]
      rcases chk_three b with h | h | h
      · exact absurd h h2
      · exact .inr (.inl h)
      · exact .inr (.inr h)
  · rw [if_pos h1]
    rcases chk_three a with h | h | h
    · exact absurd h h1
    · exact .inr (.inl h)
    · exact .inr (.inr h)
theorem fold_good0 {l : List Cnt} {m : List Chn} (h : GoodA (av l)) (hm : InForm m) : foldS l m = foldR (av l) 0 (ac m) := by
  unfold foldS
  rw [if_neg (fun h' => h' (chk_of h)), if_neg (fun h' => h' hm.form)]

set_option maxHeartbeats 4000000 in
set_option maxRecDepth 10000 in
theorem changeDiffs_walk (va vb : Value) (a b : List Cnt) (w : World) (ha : View w va a) (hfa : FineV a) (hb : View w vb b) (hfb : FineV b) (hm : Mx w) :
    Calls Tryd.prog 9 #[va, vb] w fun e w' => e = .returned (.bool true) ∧ Below w.heap.size w w' := by
  have HM := Lib.hid hm
  have HD := Lib.hid (cdiff_any va vb a b w ha hfa hb hfb hm)
  have HR := Lib.hid (fun w' (h : Below w.heap.size w w') => diffOf_any va vb a b w' (ha.below h) hfa (hb.below h) hfb)
  clear ha hb hfa hfb hm
  generalize diffS a b = S at HD HR
  obtain ⟨SA, SE⟩ := S
  have e1 : (SE == SE) = true := by simp
  go_enter Tryd.func9, Tryd.ntmps9
  go_wp2_with fail
  refine HD.out.mono ?_
  rintro e w1 ⟨v1, l1, rfl, hV1, ha1, hb1⟩
  have HV1 := Lib.hid hV1
  have HA1 := Lib.hid ha1
  clear hV1 ha1
  go_wp2_with fail
  refine (HR.out _ hb1).mono ?_
  rintro e w2 ⟨v2, l2, rfl, hV2, ha2, hb2⟩
  have B2 := below_trans hb1 hb2
  have HV12 := Lib.hid (HV1.out.below hb2)
  have HV2 := Lib.hid hV2
  have HAA := Lib.hid (HA1.out.trans ha2.symm)
  clear hV2 ha2 hb1 hb2 HV1 HA1
  go_wp2_with fail
  refine (changeBegun_any _ (HM.out.below B2)).mono ?_
  rintro e w3 ⟨rfl, hb3⟩
  have B3 := below_trans B2 hb3
  go_wp2_with fail
  refine (sameChanges_any v1 v2 l1 l2 _ (HV12.out.below hb3) (HV2.out.below hb3) HAA.out).mono ?_
  rintro e w6 ⟨rfl, hb6⟩
  have B6 := below_trans B3 hb6
  clear hb6
  go_wp2
  go_ret
  exact ⟨rfl, B6⟩

set_option maxHeartbeats 4000000 in
set_option maxRecDepth 10000 in
theorem changeMakes_walk (va vb : Value) (a b : List Cnt) (w : World) (ha : View w va a) (hfa : FineV a) (hb : View w vb b) (hfb : FineV b) (hm : Mx w) :
    Calls Tryd.prog 10 #[va, vb] w fun e w' => e = .returned (.bool true) ∧ Below w.heap.size w w' := by
  have HM := Lib.hid hm
  have HA := Lib.hid ha
  have HB := Lib.hid hb
  have HFA := Lib.hid hfa
  have HD := Lib.hid (cdiff_any va vb a b w ha hfa hb hfb hm)
  have HC := diff_cases hfa hfb
  clear ha hb hfa hfb hm
  generalize diffS a b = S at HD HC
  obtain ⟨SA, SE⟩ := S
  simp only at HC
  rcases HC with ⟨rfl, h1, h2, h3, h4⟩ | rfl | rfl
  · have HG1 := Lib.hid h1
    have HG2 := Lib.hid h2
    have H3 := Lib.hid h3
    have H4 := Lib.hid h4
    clear h1 h2 h3 h4
    go_enter Tryd.func10, Tryd.ntmps10
    go_wp2_with fail
    refine HD.out.mono ?_
    rintro e w1 ⟨v1, l1, rfl, hV1, ha1, hb1⟩
    have HF : Hid (InForm l1) := Lib.hid (form_tell (merge_rises HG1.out.rises HG2.out.rises) (ha1.trans H3.out) (by rw [← ac_len, ha1, H3.out]; exact H4.out))
    have HV1 := Lib.hid hV1
    have HE : Hid (foldS a l1 = (av b, 0, 0)) := Lib.hid (by
      rw [fold_good0 HG1.out HF.out, ha1]
      show foldR (av a) 0 SA = _
      rw [H3.out]
      exact fold_tell HG1.out HG2.out (merge_rises HG1.out.rises HG2.out.rises) fun r hr => merge_look HG1.out.rises HG2.out.rises hr)
    clear hV1 ha1
    go_wp2_with fail
    refine (cfold_any va v1 a l1 _ (HA.out.below hb1) HFA.out HV1.out HF.out.fine (HM.out.below hb1)).mono ?_
    rw [HE.out]
    rintro e w2 ⟨v2, l2, rfl, hV2, ha2, hb2⟩
    have B2 := below_trans hb1 hb2
    have HV2 := Lib.hid hV2
    have HA2 := Lib.hid ha2
    clear hV2 ha2 hb1 hb2
    go_wp2_with fail
    refine (changeBegun_any _ (HM.out.below B2)).mono ?_
    rintro e w3 ⟨rfl, hb3⟩
    have B3 := below_trans B2 hb3
    go_wp2_with fail
    refine (sameViews_any v2 vb l2 b _ (HV2.out.below hb3) (HB.out.below B3) HA2.out).mono ?_
    rintro e w6 ⟨rfl, hb6⟩
    have B6 := below_trans B3 hb6
    clear hb6
    go_wp2
    go_ret
    exact ⟨rfl, B6⟩
  all_goals
    go_enter Tryd.func10, Tryd.ntmps10
    go_wp2_with fail
    refine HD.out.mono ?_
    rintro e w1 ⟨v1, l1, rfl, hV1, ha1, hb1⟩
    clear hV1 ha1
    go_wp2_with fail
    refine (changeBegun_any _ (HM.out.below hb1)).mono ?_
    rintro e w3 ⟨rfl, hb3⟩
    have B3 := below_trans hb1 hb3
    clear hb1 hb3
    go_wp2
    go_ret
    exact ⟨rfl, B3⟩

end Go.Proofs.YtelmlagolmabpaaDoor
