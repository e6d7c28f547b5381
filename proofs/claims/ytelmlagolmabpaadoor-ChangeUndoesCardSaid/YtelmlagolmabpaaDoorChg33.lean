/-
  The laws ChangeNets and ChangeUndoes.
-/
import Derived.Test.YtelmlagolmabpaaDoorChg30
import Derived.Test.YtelmlagolmabpaaDoorChg31
import Derived.Test.YtelmlagolmabpaaDoorChg32
set_option linter.unusedSimpArgs false
set_option linter.unusedVariables false
namespace Go.Proofs.YtelmlagolmabpaaDoor
open Go.RowKit Go.Maps

theorem ac_none {l : List Chn} (h : ac l = []) : l = [] := by cases l with | nil => rfl | cons c t => simp [ac] at h
theorem av_none {l : List Cnt} (h : av l = []) : l = [] := by cases l with | nil => rfl | cons c t => simp [av] at h
theorem fold_err : ∀ (L : KL) (A : AV) (i : Int), (foldR A i L).2.2 ≠ 0 → (foldR A i L).1 = []
  | [], _, _, h => absurd rfl h
  | c :: t, A, i, h => by
    rw [foldR] at h ⊢
    by_cases h0 : (addR A c.2 (stepI c.1)).2 = 0
    · rw [if_pos h0] at h ⊢; exact fold_err t _ _ h
    · rw [if_neg h0]
theorem foldS_err {l : List Cnt} {m : List Chn} (h : (foldS l m).2.2 ≠ 0) : (foldS l m).1 = [] := by
  unfold foldS at h ⊢
  by_cases h1 : chkV l = 0
  · rw [if_neg (fun h => h h1)] at h ⊢
    by_cases h2 : formC m = 0
    · rw [if_neg (fun h => h h2)] at h ⊢; exact fold_err _ _ _ h
    · rw [if_pos h2]
  · rw [if_pos h1]
theorem foldS_ok {l : List Cnt} {m : List Chn} (hf : FineV l) (hm : FineC m) (h : (foldS l m).2.2 = 0) : GoodA (av l) ∧ InForm m ∧ foldS l m = foldR (av l) 0 (ac m) := by
  unfold foldS at h
  by_cases h1 : chkV l = 0
  · rw [if_neg (fun h => h h1)] at h
    by_cases h2 : formC m = 0
    · exact ⟨(chk_zero hf h1).a, inForm hm h2, fold_good0 (chk_zero hf h1).a (inForm hm h2)⟩
    · rw [if_pos h2] at h; exact absurd h h2
  · rw [if_pos h1] at h; exact absurd h h1
theorem InForm.rows {m : List Chn} (h : InForm m) : ∀ c ∈ ac m, GoodR c.2 := fun c hc => by obtain ⟨d, hd, rfl⟩ := List.mem_map.1 hc; exact (h.good d hd).1
theorem InForm.all {m : List Chn} (h : InForm m) : ∀ c ∈ ac m, GoodR c.2 ∧ 1 ≤ c.1 ∧ c.1 ≤ 4 := fun c hc => by obtain ⟨d, hd, rfl⟩ := List.mem_map.1 hc; exact h.good d hd
theorem InForm.c {m : List Chn} (h : InForm m) : GoodC m := ⟨h.few, h.good⟩
theorem net_ok {m : List Chn} (h : InForm m) : netS m = (tell (netR [] (ac m)), 0) := by
  unfold netS
  rw [if_neg (fun h' => h' h.form), net_told h.rows (by rw [ac_len]; exact h.few)]
theorem undo_ok {m : List Chn} (h : InForm m) : undoS m = (undoL (ac m), 0) := by
  unfold undoS
  rw [if_neg (fun h' => h' h.form)]
theorem net_form {m m' : List Chn} (h : InForm m) (e : ac m' = tell (netR [] (ac m))) : InForm m' :=
  form_tell (net_rises (ac m) [] Rises.nil h.rows) e (by
    have h1 := congrArg List.length e
    rw [ac_len, tell_len] at h1
    have h2 := net_abs (ac m) [] Rises.nil h.rows
    rw [ac_len] at h2
    simp only [absA] at h2
    have := h.few
    omega)

set_option maxHeartbeats 4000000 in
set_option maxRecDepth 10000 in
theorem changeNets_walk (vm : Value) (m : List Chn) (w : World) (hs : Chs w vm m) (hfm : FineC m) (hm : Mx w) :
    Calls Tryd.prog 12 #[vm] w fun e w' => e = .returned (.bool true) ∧ Below w.heap.size w w' := by
  have HM := Lib.hid hm
  have HS := Lib.hid hs
  have HFM := Lib.hid hfm
  have HN := Lib.hid (cnet_any vm m w hs hfm hm)
  have HU := Lib.hid (fun w' (h : Below w.heap.size w w') => cundo_any vm m w' (hs.below h) hfm (hm.below h))
  have HF := Lib.hid (fun w' (h : Below w.heap.size w w') => crform_any vm m w' (hs.below h) hfm)
  by_cases hy : formC m = 0
  · have HI := Lib.hid (inForm hfm hy)
    rw [net_ok HI.out] at HN
    rw [undo_ok HI.out] at HU
    rw [hy] at HF
    clear hs hfm hm hy
    go_enter Tryd.func12, Tryd.ntmps12
    go_wp2_with fail
    refine HN.out.mono ?_
    rintro e w1 ⟨v1, l1, rfl, hV1, ha1, hb1⟩
    have HV1 := Lib.hid hV1
    have HA1 := Lib.hid ha1
    clear hV1 ha1
    go_wp2_with fail
    refine (HU.out _ hb1).mono ?_
    rintro e w2 ⟨v2, l2, rfl, hV2, ha2, hb2⟩
    have B2 := below_trans hb1 hb2
    have HV12 := Lib.hid (HV1.out.below hb2)
    have HV2 := Lib.hid hV2
    have HA2 := Lib.hid ha2
    clear hV2 ha2 hb1 hb2 HV1
    go_wp2_with fail
    refine (HF.out _ B2).mono ?_
    rintro e w3 ⟨rfl, hb3⟩
    have B3 := below_trans B2 hb3
    have HV13 := Lib.hid (HV12.out.below hb3)
    have HV23 := Lib.hid (HV2.out.below hb3)
    clear hb3 B2 HV12 HV2
    go_wp2_with fail
    refine (changeBegun_any _ (HM.out.below B3)).mono ?_
    rintro e w4 ⟨rfl, hb4⟩
    have B4 := below_trans B3 hb4
    have HV14 := Lib.hid (HV13.out.below hb4)
    have HV24 := Lib.hid (HV23.out.below hb4)
    clear hb4 B3 HV13 HV23
    go_wp2_with fail
    refine (rnet_any vm m _ (HS.out.below B4) HI.out.c).mono ?_
    rintro e w5 ⟨v5, l5, rfl, hV5, ha5, hb5⟩
    have B5 := below_trans B4 hb5
    have HV15 := Lib.hid (HV14.out.below hb5)
    have HV25 := Lib.hid (HV24.out.below hb5)
    have HV5 := Lib.hid hV5
    have HA5 := Lib.hid (HA1.out.trans ha5.symm)
    clear hb5 B4 HV14 HV24 hV5 ha5
    go_wp2_with fail
    refine (sameChanges_any v1 v5 l1 l5 _ HV15.out HV5.out HA5.out).mono ?_
    rintro e w6 ⟨rfl, hb6⟩
    have B6 := below_trans B5 hb6
    have HV26 := Lib.hid (HV25.out.below hb6)
    clear hb6 B5 HV15 HV25 HV5
    go_wp2_with fail
    refine (rundo_any vm m _ (HS.out.below B6) HI.out.c).mono ?_
    rintro e w7 ⟨v7, l7, rfl, hV7, ha7, hb7⟩
    have B7 := below_trans B6 hb7
    have HV27 := Lib.hid (HV26.out.below hb7)
    have HV7 := Lib.hid hV7
    have HA7 := Lib.hid (HA2.out.trans ha7.symm)
    clear hb7 B6 HV26 hV7 ha7
    go_wp2_with fail
    refine (sameChanges_any v2 v7 l2 l7 _ HV27.out HV7.out HA7.out).mono ?_
    rintro e w8 ⟨rfl, hb8⟩
    have B8 := below_trans B7 hb8
    clear hb8
    go_wp2
    go_ret
    exact ⟨rfl, B8⟩
  · have e1 : netS m = ([], formC m) := if_pos hy
    have e2 : undoS m = ([], formC m) := if_pos hy
    rw [e1] at HN
    rw [e2] at HU
    clear e1 e2
    generalize formC m = y at HN HU HF hy
    have hy' := bneT hy
    have hyy : (y == y) = true := by simp
    clear hs hfm hm hy
    go_enter Tryd.func12, Tryd.ntmps12
    go_wp2_with fail
    refine HN.out.mono ?_
    rintro e w1 ⟨v1, l1, rfl, hV1, ha1, hb1⟩
    obtain rfl := ac_none ha1
    obtain ⟨A1, c1, rfl, -⟩ := id hV1.sl
    clear hV1 ha1
    go_wp2_with fail
    refine (HU.out _ hb1).mono ?_
    rintro e w2 ⟨v2, l2, rfl, hV2, ha2, hb2⟩
    have B2 := below_trans hb1 hb2
    obtain rfl := ac_none ha2
    obtain ⟨A2, c2, rfl, -⟩ := id hV2.sl
    clear hV2 ha2 hb1 hb2
    go_wp2_with fail
    refine (HF.out _ B2).mono ?_
    rintro e w3 ⟨rfl, hb3⟩
    have B3 := below_trans B2 hb3
    clear hb3 B2
    go_wp2_with fail
    refine (changeBegun_any _ (HM.out.below B3)).mono ?_
    rintro e w4 ⟨rfl, hb4⟩
    have B4 := below_trans B3 hb4
    clear hb4 B3
    go_wp2
    go_ret
    exact ⟨rfl, B4⟩

set_option maxHeartbeats 4000000 in
set_option maxRecDepth 10000 in
theorem changeUndoes_walk (v vm : Value) (l : List Cnt) (m : List Chn) (w : World) (h : View w v l) (hf : FineV l) (hs : Chs w vm m) (hfm : FineC m) (hm : Mx w) :
    Calls Tryd.prog 13 #[v, vm] w fun e w' => e = .returned (.bool true) ∧ Below w.heap.size w w' := by
  have HM := Lib.hid hm
  have HV := Lib.hid h
  have HF := Lib.hid hf
  have HFO := Lib.hid (cfold_any v vm l m w h hf hs hfm hm)
  have HN := Lib.hid (fun w' (h : Below w.heap.size w w') => cnet_any vm m w' (hs.below h) hfm (hm.below h))
  have HU := Lib.hid (fun w' (h : Below w.heap.size w w') => cundo_any vm m w' (hs.below h) hfm (hm.below h))
  by_cases hy : (foldS l m).2.2 = 0
  · obtain ⟨hg, hi, he⟩ := foldS_ok hf hfm hy
    have HG := Lib.hid hg
    have HI := Lib.hid hi
    rw [he] at hy HFO
    have HW : Hid (GoodA (foldR (av l) 0 (ac m)).1) := Lib.hid (fold_good (ac m) (av l) 0 hg hi.rows hy)
    have HX : Hid (foldR (av l) 0 (tell (netR [] (ac m))) = ((foldR (av l) 0 (ac m)).1, 0, 0)) := Lib.hid (fold_net hg hi.rows hy)
    have HY : Hid (foldR (foldR (av l) 0 (ac m)).1 0 (undoL (ac m)) = (av l, 0, 0)) := Lib.hid (fold_undo hg (ac m) hi.all hy)
    rw [net_ok hi] at HN
    rw [undo_ok hi] at HU
    generalize foldR (av l) 0 (ac m) = S at HFO hy HW HX HY
    obtain ⟨SA, SP, SE⟩ := S
    simp only at hy
    subst hy
    clear h hf hs hfm hm hg hi he
    go_enter Tryd.func13, Tryd.ntmps13
    go_wp2_with fail
    refine HFO.out.mono ?_
    rintro e w1 ⟨v1, l1, rfl, hV1, ha1, hb1⟩
    have HV1 := Lib.hid hV1
    have HA1 := Lib.hid (show av l1 = SA from ha1)
    clear hV1 ha1
    go_wp2_with fail
    refine (HN.out _ hb1).mono ?_
    rintro e w2 ⟨v2, l2, rfl, hV2, ha2, hb2⟩
    have B2 := below_trans hb1 hb2
    have HV12 := Lib.hid (HV1.out.below hb2)
    have HV2 := Lib.hid hV2
    have HI2 := Lib.hid (net_form HI.out ha2)
    have HX2 : Hid (foldS l l2 = (SA, 0, 0)) := Lib.hid (by rw [fold_good0 HG.out HI2.out, ha2]; exact HX.out)
    clear hV2 ha2 hb1 hb2 HV1
    go_wp2_with fail
    refine (HU.out _ B2).mono ?_
    rintro e w3 ⟨v3, l3, rfl, hV3, ha3, hb3⟩
    have B3 := below_trans B2 hb3
    have HV13 := Lib.hid (HV12.out.below hb3)
    have HV23 := Lib.hid (HV2.out.below hb3)
    have HV3 := Lib.hid hV3
    have HI3 := Lib.hid (form_undo HI.out ha3)
    have HG1 : Hid (GoodA (av l1)) := Lib.hid (by rw [HA1.out]; exact HW.out)
    have HY2 : Hid (foldS l1 l3 = (av l, 0, 0)) := Lib.hid (by rw [fold_good0 HG1.out HI3.out, HA1.out, ha3]; exact HY.out)
    clear hV3 ha3 hb3 B2 HV12 HV2
    go_wp2_with fail
    refine (cfold_any v v2 l l2 _ (HV.out.below B3) HF.out HV23.out HI2.out.fine (HM.out.below B3)).mono ?_
    rw [HX2.out]
    rintro e w4 ⟨v4, l4, rfl, hV4, ha4, hb4⟩
    have B4 := below_trans B3 hb4
    have HV14 := Lib.hid (HV13.out.below hb4)
    have HV34 := Lib.hid (HV3.out.below hb4)
    have HV4 := Lib.hid hV4
    have HA4 := Lib.hid ((show av l4 = SA from ha4).trans HA1.out.symm)
    clear hV4 ha4 hb4 B3 HV13 HV23 HV3
    go_wp2_with fail
    refine (cfold_any v1 v3 l1 l3 _ HV14.out (fineV_of HG1.out) HV34.out HI3.out.fine (HM.out.below B4)).mono ?_
    rw [HY2.out]
    rintro e w5 ⟨v5, l5, rfl, hV5, ha5, hb5⟩
    have B5 := below_trans B4 hb5
    have HV15 := Lib.hid (HV14.out.below hb5)
    have HV45 := Lib.hid (HV4.out.below hb5)
    have HV5 := Lib.hid hV5
    have HA5 := Lib.hid (show av l5 = av l from ha5)
    clear hV5 ha5 hb5 B4 HV14 HV34 HV4
    go_wp2_with fail
    refine (changeBegun_any _ (HM.out.below B5)).mono ?_
    rintro e w6 ⟨rfl, hb6⟩
    have B6 := below_trans B5 hb6
    have HV16 := Lib.hid (HV15.out.below hb6)
    have HV46 := Lib.hid (HV45.out.below hb6)
    have HV56 := Lib.hid (HV5.out.below hb6)
    clear hb6 B5 HV15 HV45 HV5
    go_wp2_with fail
    refine (sameViews_any v4 v1 l4 l1 _ HV46.out HV16.out HA4.out).mono ?_
    rintro e w7 ⟨rfl, hb7⟩
    have B7 := below_trans B6 hb7
    have HV57 := Lib.hid (HV56.out.below hb7)
    clear hb7 B6 HV16 HV46 HV56
    go_wp2_with fail
    refine (sameViews_any v5 v l5 l _ HV57.out (HV.out.below B7) HA5.out).mono ?_
    rintro e w8 ⟨rfl, hb8⟩
    have B8 := below_trans B7 hb8
    clear hb8
    go_wp2
    go_ret
    exact ⟨rfl, B8⟩
  · have hn := foldS_err hy
    generalize foldS l m = S at HFO hy hn
    obtain ⟨SA, SP, SE⟩ := S
    simp only at hy hn
    subst hn
    have hy' := bneT hy
    clear h hf hs hfm hm hy
    go_enter Tryd.func13, Tryd.ntmps13
    go_wp2_with fail
    refine HFO.out.mono ?_
    rintro e w1 ⟨v1, l1, rfl, hV1, ha1, hb1⟩
    obtain rfl := av_none ha1
    obtain ⟨A1, c1, rfl, -⟩ := id hV1.sl
    clear hV1 ha1
    go_wp2_with fail
    refine (changeBegun_any _ (HM.out.below hb1)).mono ?_
    rintro e w4 ⟨rfl, hb4⟩
    have B4 := below_trans hb1 hb4
    clear hb4 hb1
    go_wp2
    go_ret
    exact ⟨rfl, B4⟩

end Go.Proofs.YtelmlagolmabpaaDoor
