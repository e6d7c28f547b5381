/-
  The law ChangeCuts.
-/
import Derived.Test.YtelmlagolmabpaaDoorChg33
set_option linter.unusedSimpArgs false
set_option linter.unusedVariables false
namespace Go.Proofs.YtelmlagolmabpaaDoor
open Go.RowKit Go.Maps

set_option maxHeartbeats 4000000 in
set_option maxRecDepth 10000 in
theorem choose_any (cut n : Int) (w : World) (hc : -9223372036854775808 ≤ cut ∧ cut ≤ 9223372036854775807) (hn : -9223372036854775808 ≤ n ∧ n ≤ 9223372036854775807) (h0 : n ≠ 0) :
    Calls Tryd.prog 36 #[.int .i64 cut, .int .i64 n] w fun e w' => ∃ k, e = .returned (.int .i64 k) ∧ (1 ≤ n → 0 ≤ k ∧ k < n) ∧ Below w.heap.size w w' := by
  have hz := bneT h0
  have hz' := beqF h0
  have key : ∀ x : Int, 0 ≤ x → x ≤ 9223372036854775807 → (1 ≤ n → 0 ≤ x.tmod n ∧ x.tmod n < n) ∧ IntKind.i64.wrap (x.tmod n) = x.tmod n := by
    intro x h1 h2
    have e1 : 0 ≤ x.tmod n := Int.tmod_nonneg n h1
    have e2 : x.tmod n ≤ x := by
      have := Int.natAbs_tmod x n
      have h3 : (x.natAbs % n.natAbs) ≤ x.natAbs := Nat.mod_le _ _
      omega
    refine ⟨fun hn => ⟨e1, Int.tmod_lt_of_pos x (by omega)⟩, ?_⟩
    rw [IntKind.wrap_i64]
    omega
  by_cases hneg : cut < 0
  · have hw1 : IntKind.i64.wrap (cut + 1) = cut + 1 := by rw [IntKind.wrap_i64]; omega
    have hw2 : IntKind.i64.wrap (-(cut + 1)) = -(cut + 1) := by rw [IntKind.wrap_i64]; omega
    obtain ⟨k1, k2⟩ := key (-(cut + 1)) (by omega) (by omega)
    have K1 := Lib.hid k1
    clear k1 key
    go_enter Tryd.func36, Tryd.ntmps36
    go_wp2
    go_ret
    exact ⟨_, rfl, fun h => by have := K1.out h; rwa [Int.neg_tmod] at this, Below.refl _ _⟩
  · obtain ⟨k1, k2⟩ := key cut (by omega) (by omega)
    have K1 := Lib.hid k1
    clear k1 key
    go_enter Tryd.func36, Tryd.ntmps36
    go_wp2
    go_ret
    exact ⟨_, rfl, fun h => ⟨Int.emod_nonneg _ (by omega), Int.emod_lt_of_pos _ (by omega)⟩, Below.refl _ _⟩

theorem Chs.take {w : World} {A : Option Addr} {c : Nat} {m : List Chn} (h : Chs w (.slice A m.length c) m) {k : Nat} (hk : k ≤ m.length) : Chs w (.slice A k c) (m.take k) := by
  have h1 := h.sl.take (size := 2) hk
  rw [show (chnCells m).take (k * 2) = chnCells (m.take k) from flat_take Chn.cells_len m k] at h1
  exact ⟨by rw [List.length_take, Nat.min_eq_left hk]; exact h1, fun d hd => h.rows d (List.mem_of_mem_take hd)⟩
theorem Chs.drop {w : World} {A : Option Addr} {c : Nat} {m : List Chn} (h : Chs w (.slice A m.length c) m) {k : Nat} (hk : k ≤ m.length) :
    Chs w (.slice (if c = k then A else A.map (·.add (k * 2))) (m.length - k) (c - k)) (m.drop k) := by
  have h1 := h.sl.drop (size := 2) (flat_len Chn.cells_len m) hk
  rw [show (chnCells m).drop (k * 2) = chnCells (m.drop k) from flat_drop Chn.cells_len m k] at h1
  exact ⟨by rw [List.length_drop]; exact h1, fun d hd => h.rows d (List.mem_of_mem_drop hd)⟩
theorem fine_take {m : List Chn} (h : FineC m) (k : Nat) : FineC (m.take k) := ⟨fun c hc => h.rows c (List.mem_of_mem_take hc), fun c hc => h.nums c (List.mem_of_mem_take hc)⟩
theorem fine_drop {m : List Chn} (h : FineC m) (k : Nat) : FineC (m.drop k) := ⟨fun c hc => h.rows c (List.mem_of_mem_drop hc), fun c hc => h.nums c (List.mem_of_mem_drop hc)⟩
theorem ac_take (m : List Chn) (k : Nat) : ac (m.take k) = (ac m).take k := by unfold ac; rw [List.map_take]
theorem ac_drop (m : List Chn) (k : Nat) : ac (m.drop k) = (ac m).drop k := by unfold ac; rw [List.map_drop]
/-- THE ONE PART BEHIND THE OTHER. -/
theorem fold_cut {A : AV} {L : KL} (hg : ∀ c ∈ L, GoodR c.2) (hA : GoodA A) (h : (foldR A 0 L).2.2 = 0) (k : Nat) :
    (foldR A 0 (L.take k)).2.2 = 0 ∧ GoodA (foldR A 0 (L.take k)).1 ∧ foldR (foldR A 0 (L.take k)).1 0 (L.drop k) = ((foldR A 0 L).1, 0, 0) := by
  have h1 : L.take k ++ L.drop k = L := List.take_append_drop k L
  have h2 : (foldR A 0 (L.take k)).2.2 = 0 := fold_head (M := L.drop k) (by rw [h1]; exact h)
  have h3 := fold_app (L.take k) (L.drop k) A 0 h2
  rw [h1] at h3
  refine ⟨h2, fold_good _ A 0 hA (fun c hc => hg c (List.mem_of_mem_take hc)) h2, ?_⟩
  have h4 : (foldR (foldR A 0 (L.take k)).1 (0 + (L.take k).length) (L.drop k)).2.2 = 0 := by rw [← h3]; exact h
  rw [fold_any_place _ _ _ 0 h4, ← h3]
  have h5 := fold_place L A 0 h
  generalize foldR A 0 L = S at h h5
  obtain ⟨a, b, c⟩ := S
  simp only at h h5
  rw [h, h5]

set_option maxHeartbeats 4000000 in
set_option maxRecDepth 10000 in
theorem changeCuts_walk (v vm : Value) (l : List Cnt) (m : List Chn) (cut : Int) (w : World) (h : View w v l) (hf : FineV l) (hs : Chs w vm m) (hfm : FineC m) (hc : -9223372036854775808 ≤ cut ∧ cut ≤ 9223372036854775807) (hm : Mx w) :
    Calls Tryd.prog 8 #[v, vm, .int .i64 cut] w fun e w' => e = .returned (.bool true) ∧ Below w.heap.size w w' := by
  have HM := Lib.hid hm
  have HV := Lib.hid h
  have HF := Lib.hid hf
  have HS := Lib.hid hs
  have HFM := Lib.hid hfm
  have HFO := Lib.hid (fun w' (hb : Below w.heap.size w w') => cfold_any v vm l m w' (h.below hb) hf (hs.below hb) hfm (hm.below hb))
  obtain ⟨Am, cm, rfl, hm1, hm2, -⟩ := id hs.sl
  unfold maxLen at hm2
  have hne : IntKind.i64.wrap ((m.length : Int) + 1) ≠ 0 ∧ -9223372036854775808 ≤ IntKind.i64.wrap ((m.length : Int) + 1) ∧ IntKind.i64.wrap ((m.length : Int) + 1) ≤ 9223372036854775807 ∧ (m.length ≤ 4096 → IntKind.i64.wrap ((m.length : Int) + 1) = (m.length : Int) + 1) := by
    rw [IntKind.wrap_i64]
    refine ⟨?_, ?_, ?_, ?_⟩ <;> omega
  have HCH := Lib.hid (choose_any cut _ w hc ⟨hne.2.1, hne.2.2.1⟩ hne.1)
  have HNE := Lib.hid hne.2.2.2
  by_cases hy : (foldS l m).2.2 = 0
  · obtain ⟨hg, hi, he⟩ := foldS_ok hf hfm hy
    have HG := Lib.hid hg
    have HI := Lib.hid hi
    have hfew : m.length ≤ 4096 := hi.few
    rw [HNE.out hfew] at HCH
    rw [he] at hy HFO
    have HK := Lib.hid (fun k => fold_cut hi.rows hg hy k)
    generalize foldR (av l) 0 (ac m) = S at HFO hy HK
    obtain ⟨SA, SP, SE⟩ := S
    simp only at hy
    subst hy
    have hwl : IntKind.i64.wrap ((m.length : Int) + 1) = (m.length : Int) + 1 := HNE.out hfew
    clear h hf hs hfm hm hg hi he hne HNE hc
    go_enter Tryd.func8, Tryd.ntmps8
    go_wp2_with fail
    refine HCH.out.mono ?_
    rintro e w0 ⟨ki, rfl, hki, hb0⟩
    obtain ⟨hk0, hk1⟩ := hki (by omega)
    obtain ⟨k, rfl⟩ := Int.eq_ofNat_of_zero_le hk0
    have hkm : k ≤ m.length := by omega
    clear hki hk1
    go_wp2_with fail
    refine (HFO.out _ hb0).mono ?_
    rintro e w1 ⟨v1, l1, rfl, hV1, ha1, hb1'⟩
    have hb1 := below_trans hb0 hb1'
    have HV1 := Lib.hid hV1
    have HA1 := Lib.hid (show av l1 = SA from ha1)
    have HT := Lib.hid ((HS.out.take hkm).below hb1)
    have hk2 : (k : Int) ≤ (cm : Int) := by omega
    have hk3 : (k : Int) ≤ (m.length : Int) := by omega
    clear hV1 ha1 hb1' hb0
    by_cases hft : formC (m.take k) = 0
    · obtain ⟨i1, i2⟩ := form_cut HI.out hkm hft
      have HI1 := Lib.hid i1
      have HI2 := Lib.hid i2
      obtain ⟨k1, k2, k3⟩ := HK.out k
      rw [← ac_take] at k1 k2 k3
      rw [← ac_drop] at k3
      have HE1 : Hid (foldS l (m.take k) = foldR (av l) 0 (ac (m.take k))) := Lib.hid (fold_good0 HG.out HI1.out)
      have HG1 := Lib.hid k2
      generalize foldR (av l) 0 (ac (m.take k)) = S at k1 k2 k3 HE1 HG1
      obtain ⟨TA, TP, TE⟩ := S
      simp only at k1
      subst k1
      have HK3 := Lib.hid (show foldR TA 0 (ac (m.drop k)) = (SA, 0, 0) from k3)
      have HFT := Lib.hid hft
      clear k2 k3 i1 i2 hft HK HFO
      go_wp2_with fail
      refine (cform_any _ (m.take k) _ HT.out (fine_take HFM.out k) (HM.out.below hb1)).mono ?_
      rw [HFT.out]
      rintro e w2 ⟨rfl, hb2'⟩
      have hb2 := below_trans hb1 hb2'
      have HV2 := Lib.hid (HV1.out.below hb2')
      have HT2 := Lib.hid ((HS.out.take hkm).below hb2)
      clear hb2' hb1 HV1 HT
      go_wp2_with fail
      refine (cfold_any v _ l (m.take k) _ (HV.out.below hb2) HF.out HT2.out (fine_take HFM.out k) (HM.out.below hb2)).mono ?_
      rw [HE1.out]
      rintro e w3 ⟨v3, l3, rfl, hV3, ha3, hb3'⟩
      have hb3 := below_trans hb2 hb3'
      have HV3 := Lib.hid hV3
      have HA3 := Lib.hid (show av l3 = TA from ha3)
      have HG3 : Hid (GoodA (av l3)) := Lib.hid (by rw [HA3.out]; exact HG1.out)
      have HV23 := Lib.hid (HV2.out.below hb3')
      have HD3 := Lib.hid ((HS.out.drop hkm).below hb3)
      have HE3 : Hid (foldS l3 (m.drop k) = (SA, 0, 0)) := Lib.hid (by rw [fold_good0 HG3.out HI2.out, HA3.out]; exact HK3.out)
      clear hV3 ha3 hb3' hb2 HV2 HT2
      by_cases hck : cm = k
      · obtain rfl : k = cm := hck.symm
        rw [if_pos rfl, Nat.sub_self, show m.length - k = 0 by omega] at HD3
        have hckb : ((k : Int) == (k : Int)) = true := by simp
        go_wp2_with fail
        refine (cfold_any v3 _ l3 (m.drop k) _ HV3.out (fineV_of HG3.out) HD3.out (fine_drop HFM.out k) (HM.out.below hb3)).mono ?_
        rw [HE3.out]
        rintro e w4 ⟨v4, l4, rfl, hV4, ha4, hb4'⟩
        have hb4 := below_trans hb3 hb4'
        have HV4 := Lib.hid hV4
        have HA4 := Lib.hid ((show av l4 = SA from ha4).trans HA1.out.symm)
        have HV24 := Lib.hid (HV23.out.below hb4')
        clear hV4 ha4 hb4' hb3
        go_wp2_with fail
        refine (changeBegun_any _ (HM.out.below hb4)).mono ?_
        rintro e w6 ⟨rfl, hb6⟩
        have B6 := below_trans hb4 hb6
        go_wp2_with fail
        refine (sameViews_any v4 v1 l4 l1 _ (HV4.out.below hb6) (HV24.out.below hb6) HA4.out).mono ?_
        rintro e w7 ⟨rfl, hb7⟩
        have B7 := below_trans B6 hb7
        clear hb7
        go_wp2
        go_ret
        exact ⟨rfl, B7⟩
      · rw [if_neg hck] at HD3
        have hckb : ((cm : Int) == (k : Int)) = false := by simp; omega
        go_wp2_with fail
        refine (cfold_any v3 _ l3 (m.drop k) _ HV3.out (fineV_of HG3.out) HD3.out (fine_drop HFM.out k) (HM.out.below hb3)).mono ?_
        rw [HE3.out]
        rintro e w4 ⟨v4, l4, rfl, hV4, ha4, hb4'⟩
        have hb4 := below_trans hb3 hb4'
        have HV4 := Lib.hid hV4
        have HA4 := Lib.hid ((show av l4 = SA from ha4).trans HA1.out.symm)
        have HV24 := Lib.hid (HV23.out.below hb4')
        clear hV4 ha4 hb4' hb3
        go_wp2_with fail
        refine (changeBegun_any _ (HM.out.below hb4)).mono ?_
        rintro e w6 ⟨rfl, hb6⟩
        have B6 := below_trans hb4 hb6
        go_wp2_with fail
        refine (sameViews_any v4 v1 l4 l1 _ (HV4.out.below hb6) (HV24.out.below hb6) HA4.out).mono ?_
        rintro e w7 ⟨rfl, hb7⟩
        have B7 := below_trans B6 hb7
        clear hb7
        go_wp2
        go_ret
        exact ⟨rfl, B7⟩
    · have hft' := bneT hft
      clear HK HFO
      go_wp2_with fail
      refine (cform_any _ (m.take k) _ HT.out (fine_take HFM.out k) (HM.out.below hb1)).mono ?_
      rintro e w2 ⟨rfl, hb2'⟩
      have hb2 := below_trans hb1 hb2'
      clear hb2' hb1 HV1 HT
      go_wp2_with fail
      refine (changeBegun_any _ (HM.out.below hb2)).mono ?_
      rintro e w4 ⟨rfl, hb4⟩
      have B4 := below_trans hb2 hb4
      clear hb4
      go_wp2
      go_ret
      exact ⟨rfl, B4⟩
  · generalize foldS l m = S at HFO hy
    obtain ⟨SA, SP, SE⟩ := S
    simp only at hy
    have hy' := bneT hy
    generalize hN : IntKind.i64.wrap ((m.length : Int) + 1) = N at HCH
    clear h hf hs hfm hm hne hy HNE hc
    go_enter Tryd.func8, Tryd.ntmps8
    go_wp2_with fail
    refine HCH.out.mono ?_
    rintro e w0 ⟨ki, rfl, -, hb0⟩
    go_wp2_with fail
    refine (HFO.out _ hb0).mono ?_
    rintro e w1 ⟨v1, l1, rfl, hV1, ha1, hb1'⟩
    have hb1 := below_trans hb0 hb1'
    clear hV1 ha1 hb1' hb0
    go_wp2_with fail
    refine (changeBegun_any _ (HM.out.below hb1)).mono ?_
    rintro e w4 ⟨rfl, hb4⟩
    have B4 := below_trans hb1 hb4
    clear hb4
    go_wp2
    go_ret
    exact ⟨rfl, B4⟩

end Go.Proofs.YtelmlagolmabpaaDoor
