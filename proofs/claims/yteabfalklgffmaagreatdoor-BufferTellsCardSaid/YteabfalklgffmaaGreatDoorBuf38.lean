/-
  BufferTells.
-/
import Derived.Test.YteabfalklgffmaaGreatDoorBuf28
import Derived.Test.YteabfalklgffmaaGreatDoorBuf35
import Derived.Test.YteabfalklgffmaaGreatDoorBuf30
import Derived.Test.YteabfalklgffmaaGreatDoorBuf10
set_option linter.unusedSimpArgs false
set_option linter.unusedVariables false
namespace Go.Proofs.YteabfalklgffmaaGreatDoor
open Go.RowKit

set_option maxHeartbeats 16000000 in
set_option maxRecDepth 100000 in
theorem tellsA (b : Buf) (key : List UInt8) (frm upto : Int) (w : World) (hb : b.ok w) (hf : b.fit) (hm : Mx w) (hck : checkB b.bu = 0) :
    Calls Tryz.prog 4 #[b.agg, .string (str key), .int .i64 frm, .int .i64 upto] w fun e w' => e = .returned (.bool true) ∧ Below w.heap.size w w' := by
  have HSC : Hid (∀ w', Below w.heap.size w w' → Calls Tryz.prog 13 #[b.agg, .string (str key), .int .i64 frm, .int .i64 upto] w' fun e w2 => ∃ v l, e = .returned (.tuple #[v, .int .i64 0]) ∧ Ents w2 v l ∧ ens l = scanL b.bu key frm upto ∧ Below w'.heap.size w' w2) := Lib.hid (fun w' h => by
    have h1 := scan_any b key frm upto w' (hb.below h) hf (hm.below h)
    rw [hck, if_pos rfl] at h1
    exact h1)
  have HAL : Hid (∀ w', Below w.heap.size w w' → Calls Tryz.prog 14 #[b.agg] w' fun e w2 => ∃ v l, e = .returned (.tuple #[v, .int .i64 0]) ∧ Ents w2 v l ∧ ens l = sortE b.bu.all ∧ Below w'.heap.size w' w2) := Lib.hid (fun w' h => by
    have h1 := all_any b w' (hb.below h) hf (hm.below h)
    rw [hck, if_pos rfl] at h1
    exact h1.mono fun _ _ ⟨v, l, h1, h2, h3, h4⟩ => ⟨v, l, h1, h2.ents, h3, h4⟩)
  have HDR : Hid (∀ w', Below w.heap.size w w' → Calls Tryz.prog 15 #[b.agg, .int .i64 upto] w' fun e w2 => ∃ b' : Buf, e = .returned (.tuple #[b'.agg, .int .i64 0]) ∧ OwnBuf w2 w'.heap.size b' ∧ b'.bu = dropB b.bu upto ∧ Below w'.heap.size w' w2) := Lib.hid (fun w' h => by
    have h1 := drop_any b upto w' (hb.below h) hf (hm.below h)
    rw [hck, if_pos rfl] at h1
    exact h1)
  have HPK : Hid (∀ w', Below w.heap.size w w' → Calls Tryz.prog 16 #[b.agg] w' fun e w2 => ∃ b' : Buf, e = .returned (.tuple #[b'.agg, .int .i64 0]) ∧ OwnBuf w2 w'.heap.size b' ∧ b'.bu = packB b.bu ∧ Below w'.heap.size w' w2) := Lib.hid (fun w' h => by
    have h1 := pack_any b w' (hb.below h) hf (hm.below h)
    rw [hck, if_pos rfl] at h1
    exact h1)
  have HRC : Hid (∀ w', Below w.heap.size w w' → Calls Tryz.prog 7 #[b.agg] w' fun e w2 => e = .returned (.int .i64 0) ∧ Below w'.heap.size w' w2) := Lib.hid (fun w' h => by
    have h1 := rcheck_any b w' (hb.below h) hf
    rw [hck] at h1
    exact h1)
  have HBG := Lib.hid (fun w' (h : Below w.heap.size w w') => begunB_any w' (hm.below h))
  have hg := check_zeroB.1 hck
  have HSI := Lib.hid (fun w' (h : Below w.heap.size w w') => scanIn_any b key frm upto w' (hb.below h) hf hg)
  have HAI : Hid (∀ w', Below w.heap.size w w' → Calls Tryz.prog 19 #[b.agg] w' fun e w2 => ∃ v l, e = .returned v ∧ Ents w2 v l ∧ ens l = sortE b.bu.all ∧ Below w'.heap.size w' w2) := Lib.hid (fun w' h => (allIn_any b w' (hb.below h) hf hg).mono fun _ _ ⟨v, l, h1, h2, h3, h4, _⟩ => ⟨v, l, h1, h2.ents, h3, h4⟩)
  have HDI := Lib.hid (fun w' (h : Below w.heap.size w w') => dropIn_any b upto w' (hb.below h) hf hg)
  have HPI := Lib.hid (fun w' (h : Below w.heap.size w w') => packIn_any b w' (hb.below h) hf hg)
  generalize scanL b.bu key frm upto = SS at HSC HSI
  generalize sortE b.bu.all = SA at HAL HAI
  generalize dropB b.bu upto = SD at HDR HDI
  generalize packB b.bu = SP at HPK HPI
  obtain ⟨Av, cv, hvb, -⟩ := id hb.mem.sl
  obtain ⟨Ar, cr, hvr, -⟩ := id hb.sl
  unfold Buf.agg at HSC HAL HDR HPK HRC HSI HAI HDI HPI ⊢
  rw [hvb, hvr] at HSC HAL HDR HPK HRC HSI HAI HDI HPI ⊢
  have HK0 := Lib.hid (Blk.new w 25 #[.int .i64 b.limit, .slice Av b.mem.length cv, .slice Ar b.runs.length cr])
  have hB := below_alloc w (.cells #[.int .i64 b.limit, .slice Av b.mem.length cv, .slice Ar b.runs.length cr] 25)
  have y0 := HK0.out.cell 0 _ rfl
  have y1 := HK0.out.cell 1 _ rfl
  have y2 := HK0.out.cell 2 _ rfl
  clear hb hf hm hvb hvr hck hg
  go_enter Tryz.func4, Tryz.ntmps4
  go_wp2_with fail
  refine (HSC.out _ hB).mono ?_
  rintro e w1 ⟨vs, ls, rfl, hes, hus, hb1⟩
  obtain ⟨As, cs, hv1, -⟩ := id hes.sl
  subst hv1
  have hbw1 := below_trans hB hb1
  have HA0 := Lib.hid (HK0.out.below hb1)
  have HE1 := Lib.hid hes
  have HU1 := Lib.hid hus
  clear y0 y1 y2 hes hus hb1 HK0 HSC hB
  have y0 := HA0.out.cell 0 _ rfl
  have y1 := HA0.out.cell 1 _ rfl
  have y2 := HA0.out.cell 2 _ rfl
  go_wp2_with fail
  refine (HAL.out _ hbw1).mono ?_
  rintro e w2 ⟨va, la, rfl, hea, hua, hb2⟩
  obtain ⟨Aa, ca, hv2, -⟩ := id hea.sl
  subst hv2
  have hbw2 := below_trans hbw1 hb2
  have HB0 := Lib.hid (HA0.out.below hb2)
  have HE2 := Lib.hid (HE1.out.below hb2)
  have HF2 := Lib.hid hea
  have HU2 := Lib.hid hua
  clear y0 y1 y2 hea hua hb2 HA0 HE1 HAL hbw1
  have y0 := HB0.out.cell 0 _ rfl
  have y1 := HB0.out.cell 1 _ rfl
  have y2 := HB0.out.cell 2 _ rfl
  go_wp2_with fail
  refine (HDR.out _ hbw2).mono ?_
  rintro e w3 ⟨b1, rfl, hob1, hbu1, hb3⟩
  obtain ⟨Am1, cm1, hvm1, -⟩ := id hob1.ok.mem.sl
  obtain ⟨Ar1, cr1, hvr1, -⟩ := id hob1.ok.sl
  have HVM1 := Lib.hid hvm1
  have HVR1 := Lib.hid hvr1
  rw [hvm1, hvr1]
  clear hvm1 hvr1
  have hbw3 := below_trans (below_trans hbw2 hb3) (below_alloc w3 (.cells #[.int .i64 b1.limit, .slice Am1 b1.mem.length cm1, .slice Ar1 b1.runs.length cr1] 25))
  have HC0 := Lib.hid ((HB0.out.below hb3).alloc (.cells #[.int .i64 b1.limit, .slice Am1 b1.mem.length cm1, .slice Ar1 b1.runs.length cr1] 25))
  have HC1 := Lib.hid (Blk.new w3 25 #[.int .i64 b1.limit, .slice Am1 b1.mem.length cm1, .slice Ar1 b1.runs.length cr1])
  have HE3 := Lib.hid ((HE2.out.below hb3).below (below_alloc w3 (.cells #[.int .i64 b1.limit, .slice Am1 b1.mem.length cm1, .slice Ar1 b1.runs.length cr1] 25)))
  have HF3 := Lib.hid ((HF2.out.below hb3).below (below_alloc w3 (.cells #[.int .i64 b1.limit, .slice Am1 b1.mem.length cm1, .slice Ar1 b1.runs.length cr1] 25)))
  have HO3 := Lib.hid (hob1.ok.below (below_alloc w3 (.cells #[.int .i64 b1.limit, .slice Am1 b1.mem.length cm1, .slice Ar1 b1.runs.length cr1] 25)))
  have HU3 := Lib.hid hbu1
  clear y0 y1 y2 hob1 hbu1 hb3 HB0 HE2 HF2 HDR hbw2
  have y0 := HC0.out.cell 0 _ rfl
  have y1 := HC0.out.cell 1 _ rfl
  have y2 := HC0.out.cell 2 _ rfl
  go_wp2_with fail
  refine (HPK.out _ hbw3).mono ?_
  rintro e w4 ⟨b2, rfl, hob2, hbu2, hb4⟩
  obtain ⟨Am2, cm2, hvm2, -⟩ := id hob2.ok.mem.sl
  obtain ⟨Ar2, cr2, hvr2, -⟩ := id hob2.ok.sl
  have HVM2 := Lib.hid hvm2
  have HVR2 := Lib.hid hvr2
  rw [hvm2, hvr2]
  clear hvm2 hvr2
  have hbw4 := below_trans (below_trans hbw3 hb4) (below_alloc w4 (.cells #[.int .i64 b2.limit, .slice Am2 b2.mem.length cm2, .slice Ar2 b2.runs.length cr2] 25))
  have HD0 := Lib.hid ((HC0.out.below hb4).alloc (.cells #[.int .i64 b2.limit, .slice Am2 b2.mem.length cm2, .slice Ar2 b2.runs.length cr2] 25))
  have HD1 := Lib.hid ((HC1.out.below hb4).alloc (.cells #[.int .i64 b2.limit, .slice Am2 b2.mem.length cm2, .slice Ar2 b2.runs.length cr2] 25))
  have HD2 := Lib.hid (Blk.new w4 25 #[.int .i64 b2.limit, .slice Am2 b2.mem.length cm2, .slice Ar2 b2.runs.length cr2])
  have HE4 := Lib.hid ((HE3.out.below hb4).below (below_alloc w4 (.cells #[.int .i64 b2.limit, .slice Am2 b2.mem.length cm2, .slice Ar2 b2.runs.length cr2] 25)))
  have HF4 := Lib.hid ((HF3.out.below hb4).below (below_alloc w4 (.cells #[.int .i64 b2.limit, .slice Am2 b2.mem.length cm2, .slice Ar2 b2.runs.length cr2] 25)))
  have HO4 := Lib.hid ((HO3.out.below hb4).below (below_alloc w4 (.cells #[.int .i64 b2.limit, .slice Am2 b2.mem.length cm2, .slice Ar2 b2.runs.length cr2] 25)))
  have HP4 := Lib.hid (hob2.ok.below (below_alloc w4 (.cells #[.int .i64 b2.limit, .slice Am2 b2.mem.length cm2, .slice Ar2 b2.runs.length cr2] 25)))
  have HU4 := Lib.hid hbu2
  clear y0 y1 y2 hob2 hbu2 hb4 HC0 HC1 HE3 HF3 HO3 HPK hbw3
  have y0 := HD0.out.cell 0 _ rfl
  have y1 := HD0.out.cell 1 _ rfl
  have y2 := HD0.out.cell 2 _ rfl
  go_wp2_with fail
  refine (HRC.out _ hbw4).mono ?_
  rintro e w5 ⟨rfl, hb5⟩
  have hbw5 := below_trans hbw4 hb5
  have HX0 := Lib.hid (HD0.out.below hb5)
  have HX1 := Lib.hid (HD1.out.below hb5)
  have HX2 := Lib.hid (HD2.out.below hb5)
  have HES := Lib.hid (HE4.out.below hb5)
  have HEA := Lib.hid (HF4.out.below hb5)
  have HY1 := Lib.hid (HO4.out.below hb5)
  have HY2 := Lib.hid (HP4.out.below hb5)
  clear y0 y1 y2 hb5 HD0 HD1 HD2 HE4 HF4 HO4 HP4 HRC hbw4
  go_wp2_with fail
  have hbv := hbw5.drew
  have hcv : Below w5.heap.size w5 w5.drew := (Below.refl _ _).drew
  have z : w5.drew.cell? ⟨w.heap.size, 0, none⟩ = some (.int .i64 b.limit) ∧ w5.drew.cell? ⟨w.heap.size, 1, none⟩ = some (.slice Av b.mem.length cv) ∧ w5.drew.cell? ⟨w.heap.size, 2, none⟩ = some (.slice Ar b.runs.length cr) ∧ w5.drew.cell? ⟨w3.heap.size, 0, none⟩ = some (.int .i64 b1.limit) ∧ w5.drew.cell? ⟨w3.heap.size, 1, none⟩ = some (.slice Am1 b1.mem.length cm1) ∧ w5.drew.cell? ⟨w3.heap.size, 2, none⟩ = some (.slice Ar1 b1.runs.length cr1) ∧ w5.drew.cell? ⟨w4.heap.size, 0, none⟩ = some (.int .i64 b2.limit) ∧ w5.drew.cell? ⟨w4.heap.size, 1, none⟩ = some (.slice Am2 b2.mem.length cm2) ∧ w5.drew.cell? ⟨w4.heap.size, 2, none⟩ = some (.slice Ar2 b2.runs.length cr2) := And.intro ((HX0.out.below hcv).cell 0 _ rfl) (And.intro ((HX0.out.below hcv).cell 1 _ rfl) (And.intro ((HX0.out.below hcv).cell 2 _ rfl) (And.intro ((HX1.out.below hcv).cell 0 _ rfl) (And.intro ((HX1.out.below hcv).cell 1 _ rfl) (And.intro ((HX1.out.below hcv).cell 2 _ rfl) (And.intro ((HX2.out.below hcv).cell 0 _ rfl) (And.intro ((HX2.out.below hcv).cell 1 _ rfl) ((HX2.out.below hcv).cell 2 _ rfl))))))))
  go_region_held3 (fun w' => w'.cell? ⟨w.heap.size, 0, none⟩ = some (.int .i64 b.limit) ∧ w'.cell? ⟨w.heap.size, 1, none⟩ = some (.slice Av b.mem.length cv) ∧ w'.cell? ⟨w.heap.size, 2, none⟩ = some (.slice Ar b.runs.length cr) ∧ w'.cell? ⟨w3.heap.size, 0, none⟩ = some (.int .i64 b1.limit) ∧ w'.cell? ⟨w3.heap.size, 1, none⟩ = some (.slice Am1 b1.mem.length cm1) ∧ w'.cell? ⟨w3.heap.size, 2, none⟩ = some (.slice Ar1 b1.runs.length cr1) ∧ w'.cell? ⟨w4.heap.size, 0, none⟩ = some (.int .i64 b2.limit) ∧ w'.cell? ⟨w4.heap.size, 1, none⟩ = some (.slice Am2 b2.mem.length cm2) ∧ w'.cell? ⟨w4.heap.size, 2, none⟩ = some (.slice Ar2 b2.runs.length cr2))
    (exact z)
    (first
      | (go_at_call 9; refine (HBG.out _ hbv).mono ?_; rintro e v5 ⟨rfl, hv5⟩; have hbv := below_trans hbv hv5; have hcv := below_trans hcv hv5; have z : v5.cell? ⟨w.heap.size, 0, none⟩ = some (.int .i64 b.limit) ∧ v5.cell? ⟨w.heap.size, 1, none⟩ = some (.slice Av b.mem.length cv) ∧ v5.cell? ⟨w.heap.size, 2, none⟩ = some (.slice Ar b.runs.length cr) ∧ v5.cell? ⟨w3.heap.size, 0, none⟩ = some (.int .i64 b1.limit) ∧ v5.cell? ⟨w3.heap.size, 1, none⟩ = some (.slice Am1 b1.mem.length cm1) ∧ v5.cell? ⟨w3.heap.size, 2, none⟩ = some (.slice Ar1 b1.runs.length cr1) ∧ v5.cell? ⟨w4.heap.size, 0, none⟩ = some (.int .i64 b2.limit) ∧ v5.cell? ⟨w4.heap.size, 1, none⟩ = some (.slice Am2 b2.mem.length cm2) ∧ v5.cell? ⟨w4.heap.size, 2, none⟩ = some (.slice Ar2 b2.runs.length cr2) := And.intro ((HX0.out.below hcv).cell 0 _ rfl) (And.intro ((HX0.out.below hcv).cell 1 _ rfl) (And.intro ((HX0.out.below hcv).cell 2 _ rfl) (And.intro ((HX1.out.below hcv).cell 0 _ rfl) (And.intro ((HX1.out.below hcv).cell 1 _ rfl) (And.intro ((HX1.out.below hcv).cell 2 _ rfl) (And.intro ((HX2.out.below hcv).cell 0 _ rfl) (And.intro ((HX2.out.below hcv).cell 1 _ rfl) ((HX2.out.below hcv).cell 2 _ rfl)))))))))
      | (go_at_call 18; refine (HSI.out _ hbv).mono ?_; rintro e v5 ⟨v8, l8, rfl, he8, hu8, hv5⟩; obtain ⟨A8, c8, hv8, -⟩ := id he8.sl; subst hv8; have HQ1 := Lib.hid (sameEntries_any _ _ ls l8 v5 (HES.out.below (below_trans hcv hv5)) he8 (HU1.out.trans hu8.symm)); clear he8 hu8; have hbv := below_trans hbv hv5; have hcv := below_trans hcv hv5; have z : v5.cell? ⟨w.heap.size, 0, none⟩ = some (.int .i64 b.limit) ∧ v5.cell? ⟨w.heap.size, 1, none⟩ = some (.slice Av b.mem.length cv) ∧ v5.cell? ⟨w.heap.size, 2, none⟩ = some (.slice Ar b.runs.length cr) ∧ v5.cell? ⟨w3.heap.size, 0, none⟩ = some (.int .i64 b1.limit) ∧ v5.cell? ⟨w3.heap.size, 1, none⟩ = some (.slice Am1 b1.mem.length cm1) ∧ v5.cell? ⟨w3.heap.size, 2, none⟩ = some (.slice Ar1 b1.runs.length cr1) ∧ v5.cell? ⟨w4.heap.size, 0, none⟩ = some (.int .i64 b2.limit) ∧ v5.cell? ⟨w4.heap.size, 1, none⟩ = some (.slice Am2 b2.mem.length cm2) ∧ v5.cell? ⟨w4.heap.size, 2, none⟩ = some (.slice Ar2 b2.runs.length cr2) := And.intro ((HX0.out.below hcv).cell 0 _ rfl) (And.intro ((HX0.out.below hcv).cell 1 _ rfl) (And.intro ((HX0.out.below hcv).cell 2 _ rfl) (And.intro ((HX1.out.below hcv).cell 0 _ rfl) (And.intro ((HX1.out.below hcv).cell 1 _ rfl) (And.intro ((HX1.out.below hcv).cell 2 _ rfl) (And.intro ((HX2.out.below hcv).cell 0 _ rfl) (And.intro ((HX2.out.below hcv).cell 1 _ rfl) ((HX2.out.below hcv).cell 2 _ rfl)))))))))
      | (go_at_call 19; refine (HAI.out _ hbv).mono ?_; rintro e v5 ⟨v9, l9, rfl, he9, hu9, hv5⟩; obtain ⟨A9, c9, hv9, -⟩ := id he9.sl; subst hv9; have HQ2 := Lib.hid (sameEntries_any _ _ la l9 v5 (HEA.out.below (below_trans hcv hv5)) he9 (HU2.out.trans hu9.symm)); clear he9 hu9; have hbv := below_trans hbv hv5; have hcv := below_trans hcv hv5; have z : v5.cell? ⟨w.heap.size, 0, none⟩ = some (.int .i64 b.limit) ∧ v5.cell? ⟨w.heap.size, 1, none⟩ = some (.slice Av b.mem.length cv) ∧ v5.cell? ⟨w.heap.size, 2, none⟩ = some (.slice Ar b.runs.length cr) ∧ v5.cell? ⟨w3.heap.size, 0, none⟩ = some (.int .i64 b1.limit) ∧ v5.cell? ⟨w3.heap.size, 1, none⟩ = some (.slice Am1 b1.mem.length cm1) ∧ v5.cell? ⟨w3.heap.size, 2, none⟩ = some (.slice Ar1 b1.runs.length cr1) ∧ v5.cell? ⟨w4.heap.size, 0, none⟩ = some (.int .i64 b2.limit) ∧ v5.cell? ⟨w4.heap.size, 1, none⟩ = some (.slice Am2 b2.mem.length cm2) ∧ v5.cell? ⟨w4.heap.size, 2, none⟩ = some (.slice Ar2 b2.runs.length cr2) := And.intro ((HX0.out.below hcv).cell 0 _ rfl) (And.intro ((HX0.out.below hcv).cell 1 _ rfl) (And.intro ((HX0.out.below hcv).cell 2 _ rfl) (And.intro ((HX1.out.below hcv).cell 0 _ rfl) (And.intro ((HX1.out.below hcv).cell 1 _ rfl) (And.intro ((HX1.out.below hcv).cell 2 _ rfl) (And.intro ((HX2.out.below hcv).cell 0 _ rfl) (And.intro ((HX2.out.below hcv).cell 1 _ rfl) ((HX2.out.below hcv).cell 2 _ rfl)))))))))
      | (go_at_call 20; refine (HDI.out _ hbv).mono ?_; rintro e v5 ⟨b3, rfl, hob3, hbu3, hv5⟩; obtain ⟨Am3, cm3, hvm3, -⟩ := id hob3.ok.mem.sl; obtain ⟨Ar3, cr3, hvr3, -⟩ := id hob3.ok.sl; have HS1 := Lib.hid (sameBuffers_any b1 b3 v5 (HY1.out.below (below_trans hcv hv5)) hob3.ok (HU3.out.trans hbu3.symm)); unfold Buf.agg' at HS1; rw [HVM1.out, HVR1.out, hvm3, hvr3] at HS1; rw [hvm3, hvr3]; clear hob3 hvm3 hvr3 hbu3; have hbv := below_trans hbv hv5; have hcv := below_trans hcv hv5; have z : v5.cell? ⟨w.heap.size, 0, none⟩ = some (.int .i64 b.limit) ∧ v5.cell? ⟨w.heap.size, 1, none⟩ = some (.slice Av b.mem.length cv) ∧ v5.cell? ⟨w.heap.size, 2, none⟩ = some (.slice Ar b.runs.length cr) ∧ v5.cell? ⟨w3.heap.size, 0, none⟩ = some (.int .i64 b1.limit) ∧ v5.cell? ⟨w3.heap.size, 1, none⟩ = some (.slice Am1 b1.mem.length cm1) ∧ v5.cell? ⟨w3.heap.size, 2, none⟩ = some (.slice Ar1 b1.runs.length cr1) ∧ v5.cell? ⟨w4.heap.size, 0, none⟩ = some (.int .i64 b2.limit) ∧ v5.cell? ⟨w4.heap.size, 1, none⟩ = some (.slice Am2 b2.mem.length cm2) ∧ v5.cell? ⟨w4.heap.size, 2, none⟩ = some (.slice Ar2 b2.runs.length cr2) := And.intro ((HX0.out.below hcv).cell 0 _ rfl) (And.intro ((HX0.out.below hcv).cell 1 _ rfl) (And.intro ((HX0.out.below hcv).cell 2 _ rfl) (And.intro ((HX1.out.below hcv).cell 0 _ rfl) (And.intro ((HX1.out.below hcv).cell 1 _ rfl) (And.intro ((HX1.out.below hcv).cell 2 _ rfl) (And.intro ((HX2.out.below hcv).cell 0 _ rfl) (And.intro ((HX2.out.below hcv).cell 1 _ rfl) ((HX2.out.below hcv).cell 2 _ rfl)))))))))
      | (go_at_call 21; refine (HPI.out _ hbv).mono ?_; rintro e v5 ⟨b4, rfl, hob4, hbu4, hv5⟩; obtain ⟨Am4, cm4, hvm4, -⟩ := id hob4.ok.mem.sl; obtain ⟨Ar4, cr4, hvr4, -⟩ := id hob4.ok.sl; have HS2 := Lib.hid (sameBuffers_any b2 b4 v5 (HY2.out.below (below_trans hcv hv5)) hob4.ok (HU4.out.trans hbu4.symm)); unfold Buf.agg' at HS2; rw [HVM2.out, HVR2.out, hvm4, hvr4] at HS2; rw [hvm4, hvr4]; clear hob4 hvm4 hvr4 hbu4; have hbv := below_trans hbv hv5; have hcv := below_trans hcv hv5; have z : v5.cell? ⟨w.heap.size, 0, none⟩ = some (.int .i64 b.limit) ∧ v5.cell? ⟨w.heap.size, 1, none⟩ = some (.slice Av b.mem.length cv) ∧ v5.cell? ⟨w.heap.size, 2, none⟩ = some (.slice Ar b.runs.length cr) ∧ v5.cell? ⟨w3.heap.size, 0, none⟩ = some (.int .i64 b1.limit) ∧ v5.cell? ⟨w3.heap.size, 1, none⟩ = some (.slice Am1 b1.mem.length cm1) ∧ v5.cell? ⟨w3.heap.size, 2, none⟩ = some (.slice Ar1 b1.runs.length cr1) ∧ v5.cell? ⟨w4.heap.size, 0, none⟩ = some (.int .i64 b2.limit) ∧ v5.cell? ⟨w4.heap.size, 1, none⟩ = some (.slice Am2 b2.mem.length cm2) ∧ v5.cell? ⟨w4.heap.size, 2, none⟩ = some (.slice Ar2 b2.runs.length cr2) := And.intro ((HX0.out.below hcv).cell 0 _ rfl) (And.intro ((HX0.out.below hcv).cell 1 _ rfl) (And.intro ((HX0.out.below hcv).cell 2 _ rfl) (And.intro ((HX1.out.below hcv).cell 0 _ rfl) (And.intro ((HX1.out.below hcv).cell 1 _ rfl) (And.intro ((HX1.out.below hcv).cell 2 _ rfl) (And.intro ((HX2.out.below hcv).cell 0 _ rfl) (And.intro ((HX2.out.below hcv).cell 1 _ rfl) ((HX2.out.below hcv).cell 2 _ rfl)))))))))
      | (go_at_call 17; with_reducible refine (HQ1.out).mono ?_; rintro e v5 ⟨rfl, hv5⟩; have hbv := below_trans hbv hv5; have hcv := below_trans hcv hv5; have z : v5.cell? ⟨w.heap.size, 0, none⟩ = some (.int .i64 b.limit) ∧ v5.cell? ⟨w.heap.size, 1, none⟩ = some (.slice Av b.mem.length cv) ∧ v5.cell? ⟨w.heap.size, 2, none⟩ = some (.slice Ar b.runs.length cr) ∧ v5.cell? ⟨w3.heap.size, 0, none⟩ = some (.int .i64 b1.limit) ∧ v5.cell? ⟨w3.heap.size, 1, none⟩ = some (.slice Am1 b1.mem.length cm1) ∧ v5.cell? ⟨w3.heap.size, 2, none⟩ = some (.slice Ar1 b1.runs.length cr1) ∧ v5.cell? ⟨w4.heap.size, 0, none⟩ = some (.int .i64 b2.limit) ∧ v5.cell? ⟨w4.heap.size, 1, none⟩ = some (.slice Am2 b2.mem.length cm2) ∧ v5.cell? ⟨w4.heap.size, 2, none⟩ = some (.slice Ar2 b2.runs.length cr2) := And.intro ((HX0.out.below hcv).cell 0 _ rfl) (And.intro ((HX0.out.below hcv).cell 1 _ rfl) (And.intro ((HX0.out.below hcv).cell 2 _ rfl) (And.intro ((HX1.out.below hcv).cell 0 _ rfl) (And.intro ((HX1.out.below hcv).cell 1 _ rfl) (And.intro ((HX1.out.below hcv).cell 2 _ rfl) (And.intro ((HX2.out.below hcv).cell 0 _ rfl) (And.intro ((HX2.out.below hcv).cell 1 _ rfl) ((HX2.out.below hcv).cell 2 _ rfl)))))))))
      | (go_at_call 17; with_reducible refine (HQ2.out).mono ?_; rintro e v5 ⟨rfl, hv5⟩; have hbv := below_trans hbv hv5; have hcv := below_trans hcv hv5; have z : v5.cell? ⟨w.heap.size, 0, none⟩ = some (.int .i64 b.limit) ∧ v5.cell? ⟨w.heap.size, 1, none⟩ = some (.slice Av b.mem.length cv) ∧ v5.cell? ⟨w.heap.size, 2, none⟩ = some (.slice Ar b.runs.length cr) ∧ v5.cell? ⟨w3.heap.size, 0, none⟩ = some (.int .i64 b1.limit) ∧ v5.cell? ⟨w3.heap.size, 1, none⟩ = some (.slice Am1 b1.mem.length cm1) ∧ v5.cell? ⟨w3.heap.size, 2, none⟩ = some (.slice Ar1 b1.runs.length cr1) ∧ v5.cell? ⟨w4.heap.size, 0, none⟩ = some (.int .i64 b2.limit) ∧ v5.cell? ⟨w4.heap.size, 1, none⟩ = some (.slice Am2 b2.mem.length cm2) ∧ v5.cell? ⟨w4.heap.size, 2, none⟩ = some (.slice Ar2 b2.runs.length cr2) := And.intro ((HX0.out.below hcv).cell 0 _ rfl) (And.intro ((HX0.out.below hcv).cell 1 _ rfl) (And.intro ((HX0.out.below hcv).cell 2 _ rfl) (And.intro ((HX1.out.below hcv).cell 0 _ rfl) (And.intro ((HX1.out.below hcv).cell 1 _ rfl) (And.intro ((HX1.out.below hcv).cell 2 _ rfl) (And.intro ((HX2.out.below hcv).cell 0 _ rfl) (And.intro ((HX2.out.below hcv).cell 1 _ rfl) ((HX2.out.below hcv).cell 2 _ rfl)))))))))
      | (go_at_call 10; with_reducible refine (HS1.out).mono ?_; rintro e v5 ⟨rfl, hv5⟩; have hbv := below_trans hbv hv5; have hcv := below_trans hcv hv5; have z : v5.cell? ⟨w.heap.size, 0, none⟩ = some (.int .i64 b.limit) ∧ v5.cell? ⟨w.heap.size, 1, none⟩ = some (.slice Av b.mem.length cv) ∧ v5.cell? ⟨w.heap.size, 2, none⟩ = some (.slice Ar b.runs.length cr) ∧ v5.cell? ⟨w3.heap.size, 0, none⟩ = some (.int .i64 b1.limit) ∧ v5.cell? ⟨w3.heap.size, 1, none⟩ = some (.slice Am1 b1.mem.length cm1) ∧ v5.cell? ⟨w3.heap.size, 2, none⟩ = some (.slice Ar1 b1.runs.length cr1) ∧ v5.cell? ⟨w4.heap.size, 0, none⟩ = some (.int .i64 b2.limit) ∧ v5.cell? ⟨w4.heap.size, 1, none⟩ = some (.slice Am2 b2.mem.length cm2) ∧ v5.cell? ⟨w4.heap.size, 2, none⟩ = some (.slice Ar2 b2.runs.length cr2) := And.intro ((HX0.out.below hcv).cell 0 _ rfl) (And.intro ((HX0.out.below hcv).cell 1 _ rfl) (And.intro ((HX0.out.below hcv).cell 2 _ rfl) (And.intro ((HX1.out.below hcv).cell 0 _ rfl) (And.intro ((HX1.out.below hcv).cell 1 _ rfl) (And.intro ((HX1.out.below hcv).cell 2 _ rfl) (And.intro ((HX2.out.below hcv).cell 0 _ rfl) (And.intro ((HX2.out.below hcv).cell 1 _ rfl) ((HX2.out.below hcv).cell 2 _ rfl)))))))))
      | (go_at_call 10; with_reducible refine (HS2.out).mono ?_; rintro e v5 ⟨rfl, hv5⟩; have hbv := below_trans hbv hv5; have hcv := below_trans hcv hv5; have z : v5.cell? ⟨w.heap.size, 0, none⟩ = some (.int .i64 b.limit) ∧ v5.cell? ⟨w.heap.size, 1, none⟩ = some (.slice Av b.mem.length cv) ∧ v5.cell? ⟨w.heap.size, 2, none⟩ = some (.slice Ar b.runs.length cr) ∧ v5.cell? ⟨w3.heap.size, 0, none⟩ = some (.int .i64 b1.limit) ∧ v5.cell? ⟨w3.heap.size, 1, none⟩ = some (.slice Am1 b1.mem.length cm1) ∧ v5.cell? ⟨w3.heap.size, 2, none⟩ = some (.slice Ar1 b1.runs.length cr1) ∧ v5.cell? ⟨w4.heap.size, 0, none⟩ = some (.int .i64 b2.limit) ∧ v5.cell? ⟨w4.heap.size, 1, none⟩ = some (.slice Am2 b2.mem.length cm2) ∧ v5.cell? ⟨w4.heap.size, 2, none⟩ = some (.slice Ar2 b2.runs.length cr2) := And.intro ((HX0.out.below hcv).cell 0 _ rfl) (And.intro ((HX0.out.below hcv).cell 1 _ rfl) (And.intro ((HX0.out.below hcv).cell 2 _ rfl) (And.intro ((HX1.out.below hcv).cell 0 _ rfl) (And.intro ((HX1.out.below hcv).cell 1 _ rfl) (And.intro ((HX1.out.below hcv).cell 2 _ rfl) (And.intro ((HX2.out.below hcv).cell 0 _ rfl) (And.intro ((HX2.out.below hcv).cell 1 _ rfl) ((HX2.out.below hcv).cell 2 _ rfl))))))))))
  all_goals
    clear z
    go_wp2
    go_ret
    exact ⟨rfl, hbv⟩
set_option maxHeartbeats 16000000 in
set_option maxRecDepth 100000 in
theorem tellsC (b : Buf) (key : List UInt8) (frm upto : Int) (w : World) (hb : b.ok w) (hf : b.fit) (hm : Mx w) (ck : Int) (hck : checkB b.bu = ck) (hne : ck ≠ 0) :
    Calls Tryz.prog 4 #[b.agg, .string (str key), .int .i64 frm, .int .i64 upto] w fun e w' => e = .returned (.bool true) ∧ Below w.heap.size w w' := by
  have HSC : Hid (∀ w', Below w.heap.size w w' → Calls Tryz.prog 13 #[b.agg, .string (str key), .int .i64 frm, .int .i64 upto] w' fun e w2 => ∃ v l, e = .returned (.tuple #[v, .int .i64 ck]) ∧ Ents w2 v l ∧ ens l = [] ∧ Below w'.heap.size w' w2) := Lib.hid (fun w' h => by
    have h1 := scan_any b key frm upto w' (hb.below h) hf (hm.below h)
    rw [hck, if_neg hne] at h1
    exact h1)
  have HAL : Hid (∀ w', Below w.heap.size w w' → Calls Tryz.prog 14 #[b.agg] w' fun e w2 => ∃ v l, e = .returned (.tuple #[v, .int .i64 ck]) ∧ Ents w2 v l ∧ ens l = [] ∧ Below w'.heap.size w' w2) := Lib.hid (fun w' h => by
    have h1 := all_any b w' (hb.below h) hf (hm.below h)
    rw [hck, if_neg hne] at h1
    exact h1.mono fun _ _ ⟨v, l, h1, h2, h3, h4⟩ => ⟨v, l, h1, h2.ents, h3, h4⟩)
  have HDR : Hid (∀ w', Below w.heap.size w w' → Calls Tryz.prog 15 #[b.agg, .int .i64 upto] w' fun e w2 => ∃ b' : Buf, e = .returned (.tuple #[b'.agg, .int .i64 ck]) ∧ OwnBuf w2 w'.heap.size b' ∧ b'.bu = noB ∧ Below w'.heap.size w' w2) := Lib.hid (fun w' h => by
    have h1 := drop_any b upto w' (hb.below h) hf (hm.below h)
    rw [hck, if_neg hne] at h1
    exact h1)
  have HPK : Hid (∀ w', Below w.heap.size w w' → Calls Tryz.prog 16 #[b.agg] w' fun e w2 => ∃ b' : Buf, e = .returned (.tuple #[b'.agg, .int .i64 ck]) ∧ OwnBuf w2 w'.heap.size b' ∧ b'.bu = noB ∧ Below w'.heap.size w' w2) := Lib.hid (fun w' h => by
    have h1 := pack_any b w' (hb.below h) hf (hm.below h)
    rw [hck, if_neg hne] at h1
    exact h1)
  have HRC : Hid (∀ w', Below w.heap.size w w' → Calls Tryz.prog 7 #[b.agg] w' fun e w2 => e = .returned (.int .i64 ck) ∧ Below w'.heap.size w' w2) := Lib.hid (fun w' h => by
    have h1 := rcheck_any b w' (hb.below h) hf
    rw [hck] at h1
    exact h1)
  have HBG := Lib.hid (fun w' (h : Below w.heap.size w w') => begunB_any w' (hm.below h))
  obtain ⟨Av, cv, hvb, -⟩ := id hb.mem.sl
  obtain ⟨Ar, cr, hvr, -⟩ := id hb.sl
  unfold Buf.agg at HSC HAL HDR HPK HRC ⊢
  rw [hvb, hvr] at HSC HAL HDR HPK HRC ⊢
  have HK0 := Lib.hid (Blk.new w 25 #[.int .i64 b.limit, .slice Av b.mem.length cv, .slice Ar b.runs.length cr])
  have hB := below_alloc w (.cells #[.int .i64 b.limit, .slice Av b.mem.length cv, .slice Ar b.runs.length cr] 25)
  have y0 := HK0.out.cell 0 _ rfl
  have y1 := HK0.out.cell 1 _ rfl
  have y2 := HK0.out.cell 2 _ rfl
  have hb0 := bneT hne
  have hpp : (ck == ck) = true := beq_self_eq_true _
  have hnn : (ck != ck) = false := by simp
  have hb1 := beqF hne
  clear hb hf hm hvb hvr hck hne
  go_enter Tryz.func4, Tryz.ntmps4
  go_wp2_with fail
  refine (HSC.out _ hB).mono ?_
  rintro e w1 ⟨vs, ls, rfl, hes, hus, hb1⟩
  obtain ⟨As, cs, hv1, -⟩ := id hes.sl
  subst hv1
  have hbw1 := below_trans hB hb1
  have HA0 := Lib.hid (HK0.out.below hb1)
  have HE1 := Lib.hid hes
  have HU1 := Lib.hid hus
  clear y0 y1 y2 hes hus hb1 HK0 HSC hB
  have y0 := HA0.out.cell 0 _ rfl
  have y1 := HA0.out.cell 1 _ rfl
  have y2 := HA0.out.cell 2 _ rfl
  go_wp2_with fail
  refine (HAL.out _ hbw1).mono ?_
  rintro e w2 ⟨va, la, rfl, hea, hua, hb2⟩
  obtain ⟨Aa, ca, hv2, -⟩ := id hea.sl
  subst hv2
  have hbw2 := below_trans hbw1 hb2
  have HB0 := Lib.hid (HA0.out.below hb2)
  have HE2 := Lib.hid (HE1.out.below hb2)
  have HF2 := Lib.hid hea
  have HU2 := Lib.hid hua
  clear y0 y1 y2 hea hua hb2 HA0 HE1 HAL hbw1
  have y0 := HB0.out.cell 0 _ rfl
  have y1 := HB0.out.cell 1 _ rfl
  have y2 := HB0.out.cell 2 _ rfl
  go_wp2_with fail
  refine (HDR.out _ hbw2).mono ?_
  rintro e w3 ⟨b1, rfl, hob1, hbu1, hb3⟩
  obtain ⟨Am1, cm1, hvm1, -⟩ := id hob1.ok.mem.sl
  obtain ⟨Ar1, cr1, hvr1, -⟩ := id hob1.ok.sl
  have HVM1 := Lib.hid hvm1
  have HVR1 := Lib.hid hvr1
  rw [hvm1, hvr1]
  clear hvm1 hvr1
  have hbw3 := below_trans (below_trans hbw2 hb3) (below_alloc w3 (.cells #[.int .i64 b1.limit, .slice Am1 b1.mem.length cm1, .slice Ar1 b1.runs.length cr1] 25))
  have HC0 := Lib.hid ((HB0.out.below hb3).alloc (.cells #[.int .i64 b1.limit, .slice Am1 b1.mem.length cm1, .slice Ar1 b1.runs.length cr1] 25))
  have HC1 := Lib.hid (Blk.new w3 25 #[.int .i64 b1.limit, .slice Am1 b1.mem.length cm1, .slice Ar1 b1.runs.length cr1])
  have HE3 := Lib.hid ((HE2.out.below hb3).below (below_alloc w3 (.cells #[.int .i64 b1.limit, .slice Am1 b1.mem.length cm1, .slice Ar1 b1.runs.length cr1] 25)))
  have HF3 := Lib.hid ((HF2.out.below hb3).below (below_alloc w3 (.cells #[.int .i64 b1.limit, .slice Am1 b1.mem.length cm1, .slice Ar1 b1.runs.length cr1] 25)))
  have HO3 := Lib.hid (hob1.ok.below (below_alloc w3 (.cells #[.int .i64 b1.limit, .slice Am1 b1.mem.length cm1, .slice Ar1 b1.runs.length cr1] 25)))
  have HU3 := Lib.hid hbu1
  clear y0 y1 y2 hob1 hbu1 hb3 HB0 HE2 HF2 HDR hbw2
  have y0 := HC0.out.cell 0 _ rfl
  have y1 := HC0.out.cell 1 _ rfl
  have y2 := HC0.out.cell 2 _ rfl
  go_wp2_with fail
  refine (HPK.out _ hbw3).mono ?_
  rintro e w4 ⟨b2, rfl, hob2, hbu2, hb4⟩
  obtain ⟨Am2, cm2, hvm2, -⟩ := id hob2.ok.mem.sl
  obtain ⟨Ar2, cr2, hvr2, -⟩ := id hob2.ok.sl
  have HVM2 := Lib.hid hvm2
  have HVR2 := Lib.hid hvr2
  rw [hvm2, hvr2]
  clear hvm2 hvr2
  have hbw4 := below_trans (below_trans hbw3 hb4) (below_alloc w4 (.cells #[.int .i64 b2.limit, .slice Am2 b2.mem.length cm2, .slice Ar2 b2.runs.length cr2] 25))
  have HD0 := Lib.hid ((HC0.out.below hb4).alloc (.cells #[.int .i64 b2.limit, .slice Am2 b2.mem.length cm2, .slice Ar2 b2.runs.length cr2] 25))
  have HD1 := Lib.hid ((HC1.out.below hb4).alloc (.cells #[.int .i64 b2.limit, .slice Am2 b2.mem.length cm2, .slice Ar2 b2.runs.length cr2] 25))
  have HD2 := Lib.hid (Blk.new w4 25 #[.int .i64 b2.limit, .slice Am2 b2.mem.length cm2, .slice Ar2 b2.runs.length cr2])
  have HE4 := Lib.hid ((HE3.out.below hb4).below (below_alloc w4 (.cells #[.int .i64 b2.limit, .slice Am2 b2.mem.length cm2, .slice Ar2 b2.runs.length cr2] 25)))
  have HF4 := Lib.hid ((HF3.out.below hb4).below (below_alloc w4 (.cells #[.int .i64 b2.limit, .slice Am2 b2.mem.length cm2, .slice Ar2 b2.runs.length cr2] 25)))
  have HO4 := Lib.hid ((HO3.out.below hb4).below (below_alloc w4 (.cells #[.int .i64 b2.limit, .slice Am2 b2.mem.length cm2, .slice Ar2 b2.runs.length cr2] 25)))
  have HP4 := Lib.hid (hob2.ok.below (below_alloc w4 (.cells #[.int .i64 b2.limit, .slice Am2 b2.mem.length cm2, .slice Ar2 b2.runs.length cr2] 25)))
  have HU4 := Lib.hid hbu2
  clear y0 y1 y2 hob2 hbu2 hb4 HC0 HC1 HE3 HF3 HO3 HPK hbw3
  have y0 := HD0.out.cell 0 _ rfl
  have y1 := HD0.out.cell 1 _ rfl
  have y2 := HD0.out.cell 2 _ rfl
  go_wp2_with fail
  refine (HRC.out _ hbw4).mono ?_
  rintro e w5 ⟨rfl, hb5⟩
  have hbw5 := below_trans hbw4 hb5
  have HX0 := Lib.hid (HD0.out.below hb5)
  have HX1 := Lib.hid (HD1.out.below hb5)
  have HX2 := Lib.hid (HD2.out.below hb5)
  have HES := Lib.hid (HE4.out.below hb5)
  have HEA := Lib.hid (HF4.out.below hb5)
  have HY1 := Lib.hid (HO4.out.below hb5)
  have HY2 := Lib.hid (HP4.out.below hb5)
  clear y0 y1 y2 hb5 HD0 HD1 HD2 HE4 HF4 HO4 HP4 HRC hbw4
  have HS1 := Lib.hid (fun v (h : Below w5.heap.size w5 v) => sameBuffers_any b1 zB v (HY1.out.below h) (zB_ok _) (HU3.out.trans zB_bu.symm))
  unfold Buf.agg' zB at HS1
  dsimp only at HS1
  rw [HVM1.out, HVR1.out] at HS1
  have HS2 := Lib.hid (fun v (h : Below w5.heap.size w5 v) => sameBuffers_any b2 zB v (HY2.out.below h) (zB_ok _) (HU4.out.trans zB_bu.symm))
  unfold Buf.agg' zB at HS2
  dsimp only at HS2
  rw [HVM2.out, HVR2.out] at HS2
  obtain rfl : ls = [] := by have h := HU1.out; exact List.map_eq_nil_iff.1 h
  obtain rfl : la = [] := by have h := HU2.out; exact List.map_eq_nil_iff.1 h
  have hl0 : ([] : List Ent).length = 0 := rfl
  have hbv := hbw5
  have hcv := Below.refl w5.heap.size w5
  have m0 := (HX1.out.below hcv).cell 0 _ rfl
  have m1 := (HX1.out.below hcv).cell 1 _ rfl
  have m2 := (HX1.out.below hcv).cell 2 _ rfl
  have t0 := (HX2.out.below hcv).cell 0 _ rfl
  have t1 := (HX2.out.below hcv).cell 1 _ rfl
  have t2 := (HX2.out.below hcv).cell 2 _ rfl
  go_wp2_with (first
    | (go_at_call 9; refine (HBG.out _ hbv).mono ?_; rintro e v5 ⟨rfl, hv5⟩; have hbv := below_trans hbv hv5; have hcv := below_trans hcv hv5; have m0 := (HX1.out.below hcv).cell 0 _ rfl; have m1 := (HX1.out.below hcv).cell 1 _ rfl; have m2 := (HX1.out.below hcv).cell 2 _ rfl; have t0 := (HX2.out.below hcv).cell 0 _ rfl; have t1 := (HX2.out.below hcv).cell 1 _ rfl; have t2 := (HX2.out.below hcv).cell 2 _ rfl)
    | (go_at_call 10; with_reducible refine (HS1.out _ hcv).mono ?_; rintro e v5 ⟨rfl, hv5⟩; have hbv := below_trans hbv hv5; have hcv := below_trans hcv hv5; have m0 := (HX1.out.below hcv).cell 0 _ rfl; have m1 := (HX1.out.below hcv).cell 1 _ rfl; have m2 := (HX1.out.below hcv).cell 2 _ rfl; have t0 := (HX2.out.below hcv).cell 0 _ rfl; have t1 := (HX2.out.below hcv).cell 1 _ rfl; have t2 := (HX2.out.below hcv).cell 2 _ rfl)
    | (go_at_call 10; with_reducible refine (HS2.out _ hcv).mono ?_; rintro e v5 ⟨rfl, hv5⟩; have hbv := below_trans hbv hv5; have hcv := below_trans hcv hv5; have m0 := (HX1.out.below hcv).cell 0 _ rfl; have m1 := (HX1.out.below hcv).cell 1 _ rfl; have m2 := (HX1.out.below hcv).cell 2 _ rfl; have t0 := (HX2.out.below hcv).cell 0 _ rfl; have t1 := (HX2.out.below hcv).cell 1 _ rfl; have t2 := (HX2.out.below hcv).cell 2 _ rfl))
  go_ret
  exact ⟨rfl, hbv⟩
theorem bufferTells_walk (b : Buf) (key : List UInt8) (frm upto : Int) (w : World) (hb : b.ok w) (hf : b.fit) (hm : Mx w) :
    Calls Tryz.prog 4 #[b.agg, .string (str key), .int .i64 frm, .int .i64 upto] w fun e w' => e = .returned (.bool true) ∧ Below w.heap.size w w' := by
  by_cases h : checkB b.bu = 0
  · exact tellsA b key frm upto w hb hf hm h
  · exact tellsC b key frm upto w hb hf hm _ rfl h
end Go.Proofs.YteabfalklgffmaaGreatDoor
