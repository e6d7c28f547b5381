/-
  BufferTurns.
-/
import Derived.Test.YteabfalklgffmaaGreatDoorBuf28
import Derived.Test.YteabfalklgffmaaGreatDoorBuf34
import Derived.Test.YteabfalklgffmaaGreatDoorBuf36
import Derived.Test.YteabfalklgffmaaGreatDoorBuf10
set_option linter.unusedSimpArgs false
set_option linter.unusedVariables false
namespace Go.Proofs.YteabfalklgffmaaGreatDoor
open Go.RowKit

set_option maxHeartbeats 16000000 in
set_option maxRecDepth 100000 in
theorem turnsA (b : Buf) (key : List UInt8) (t s : Int) (w : World) (hb : b.ok w) (hf : b.fit) (hm : Mx w) (hck : checkB b.bu = 0) (his : isE b.bu.all ⟨key, t, s, [], false⟩ = true) :
    Calls Tryz.prog 3 #[b.agg, .string (str key), .int .i64 t, .int .i64 s] w fun e w' => e = .returned (.bool true) ∧ Below w.heap.size w w' := by
  have hAS : atS b.bu key t s = 0 := by
    unfold atS
    rw [if_neg (fun h => h hck)]
    rw [if_pos his]
  have HMT : Hid (∀ w', Below w.heap.size w w' → Calls Tryz.prog 5 #[b.agg, .string (str key), .int .i64 t, .int .i64 s] w' fun e w2 => ∃ b' : Buf, e = .returned (.tuple #[b'.agg, .int .i64 0]) ∧ OwnBuf w2 w'.heap.size b' ∧ b'.bu = meetB b.bu key t s ∧ Below w'.heap.size w' w2) := Lib.hid (fun w' h => by
    have h1 := meet_anyB b key t s w' (hb.below h) hf (hm.below h)
    rw [hAS, if_pos rfl] at h1
    exact h1)
  have HTK : Hid (∀ w', Below w.heap.size w w' → Calls Tryz.prog 6 #[b.agg, .string (str key), .int .i64 t, .int .i64 s] w' fun e w2 => ∃ b' : Buf, e = .returned (.tuple #[b'.agg, .int .i64 0]) ∧ OwnBuf w2 w'.heap.size b' ∧ b'.bu = takeB b.bu key t s ∧ Below w'.heap.size w' w2) := Lib.hid (fun w' h => by
    have h1 := take_anyB b key t s w' (hb.below h) hf (hm.below h)
    rw [hAS, if_pos rfl] at h1
    exact h1)
  have HRC : Hid (∀ w', Below w.heap.size w w' → Calls Tryz.prog 7 #[b.agg] w' fun e w2 => e = .returned (.int .i64 0) ∧ Below w'.heap.size w' w2) := Lib.hid (fun w' h => by
    have h1 := rcheck_any b w' (hb.below h) hf
    rw [hck] at h1
    exact h1)
  have hg := check_zeroB.1 hck
  have HTH : Hid (∀ w', Below w.heap.size w w' → Calls Tryz.prog 8 #[b.agg, .string (str key), .int .i64 t, .int .i64 s] w' fun e w2 => e = .returned (.bool true) ∧ Below w'.heap.size w' w2) := Lib.hid (fun w' h => by
    have h1 := there_any b key t s w' (hb.below h) hf hg
    rw [his] at h1
    exact h1)
  have HBG := Lib.hid (fun w' (h : Below w.heap.size w w') => begunB_any w' (hm.below h))
  have HMI := Lib.hid (fun w' (h : Below w.heap.size w w') => meetIn_any b key t s w' (hb.below h) hf hg)
  have HTI := Lib.hid (fun w' (h : Below w.heap.size w w') => takeIn_any b key t s w' (hb.below h) hf hg)
  generalize meetB b.bu key t s = SM at HMT HMI
  generalize takeB b.bu key t s = ST at HTK HTI
  obtain ⟨Av, cv, hvb, -⟩ := id hb.mem.sl
  obtain ⟨Ar, cr, hvr, -⟩ := id hb.sl
  unfold Buf.agg at HMT HTK HRC HTH HMI HTI ⊢
  rw [hvb, hvr] at HMT HTK HRC HTH HMI HTI ⊢
  have HK0 := Lib.hid (Blk.new w 25 #[.int .i64 b.limit, .slice Av b.mem.length cv, .slice Ar b.runs.length cr])
  have hB := below_alloc w (.cells #[.int .i64 b.limit, .slice Av b.mem.length cv, .slice Ar b.runs.length cr] 25)
  have y0 := HK0.out.cell 0 _ rfl
  have y1 := HK0.out.cell 1 _ rfl
  have y2 := HK0.out.cell 2 _ rfl
  clear hb hf hm hvb hvr hck hAS his hg
  go_enter Tryz.func3, Tryz.ntmps3
  go_wp2_with fail
  refine (HMT.out _ hB).mono ?_
  rintro e w1 ⟨b1, rfl, hob1, hbu1, hb1⟩
  obtain ⟨Am1, cm1, hvm1, -⟩ := id hob1.ok.mem.sl
  obtain ⟨Ar1, cr1, hvr1, -⟩ := id hob1.ok.sl
  have HVM1 := Lib.hid hvm1
  have HVR1 := Lib.hid hvr1
  rw [hvm1, hvr1]
  clear hvm1 hvr1
  have hbw1 := below_trans (below_trans hB hb1) (below_alloc w1 (.cells #[.int .i64 b1.limit, .slice Am1 b1.mem.length cm1, .slice Ar1 b1.runs.length cr1] 25))
  have HL0 := Lib.hid ((HK0.out.below hb1).alloc (.cells #[.int .i64 b1.limit, .slice Am1 b1.mem.length cm1, .slice Ar1 b1.runs.length cr1] 25))
  have HL1 := Lib.hid (Blk.new w1 25 #[.int .i64 b1.limit, .slice Am1 b1.mem.length cm1, .slice Ar1 b1.runs.length cr1])
  have HO1 := Lib.hid (hob1.ok.below (below_alloc w1 (.cells #[.int .i64 b1.limit, .slice Am1 b1.mem.length cm1, .slice Ar1 b1.runs.length cr1] 25)))
  have HU1 := Lib.hid hbu1
  clear y0 y1 y2 hob1 hbu1 hb1 HK0 HMT
  have y0 := HL0.out.cell 0 _ rfl
  have y1 := HL0.out.cell 1 _ rfl
  have y2 := HL0.out.cell 2 _ rfl
  go_wp2_with fail
  refine (HTK.out _ hbw1).mono ?_
  rintro e w2 ⟨b2, rfl, hob2, hbu2, hb2⟩
  obtain ⟨Am2, cm2, hvm2, -⟩ := id hob2.ok.mem.sl
  obtain ⟨Ar2, cr2, hvr2, -⟩ := id hob2.ok.sl
  have HVM2 := Lib.hid hvm2
  have HVR2 := Lib.hid hvr2
  rw [hvm2, hvr2]
  clear hvm2 hvr2
  have hbw2 := below_trans (below_trans hbw1 hb2) (below_alloc w2 (.cells #[.int .i64 b2.limit, .slice Am2 b2.mem.length cm2, .slice Ar2 b2.runs.length cr2] 25))
  have HM0 := Lib.hid ((HL0.out.below hb2).alloc (.cells #[.int .i64 b2.limit, .slice Am2 b2.mem.length cm2, .slice Ar2 b2.runs.length cr2] 25))
  have HM1 := Lib.hid ((HL1.out.below hb2).alloc (.cells #[.int .i64 b2.limit, .slice Am2 b2.mem.length cm2, .slice Ar2 b2.runs.length cr2] 25))
  have HM2 := Lib.hid (Blk.new w2 25 #[.int .i64 b2.limit, .slice Am2 b2.mem.length cm2, .slice Ar2 b2.runs.length cr2])
  have HP1 := Lib.hid ((HO1.out.below hb2).below (below_alloc w2 (.cells #[.int .i64 b2.limit, .slice Am2 b2.mem.length cm2, .slice Ar2 b2.runs.length cr2] 25)))
  have HP2 := Lib.hid (hob2.ok.below (below_alloc w2 (.cells #[.int .i64 b2.limit, .slice Am2 b2.mem.length cm2, .slice Ar2 b2.runs.length cr2] 25)))
  have HU2 := Lib.hid hbu2
  clear y0 y1 y2 hob2 hbu2 hb2 HL0 HL1 HO1 HTK hbw1
  have y0 := HM0.out.cell 0 _ rfl
  have y1 := HM0.out.cell 1 _ rfl
  have y2 := HM0.out.cell 2 _ rfl
  go_wp2_with fail
  refine (HRC.out _ hbw2).mono ?_
  rintro e w3 ⟨rfl, hb3⟩
  have hbw3 := below_trans hbw2 hb3
  have HN0 := Lib.hid (HM0.out.below hb3)
  have HN1 := Lib.hid (HM1.out.below hb3)
  have HN2 := Lib.hid (HM2.out.below hb3)
  have HR1 := Lib.hid (HP1.out.below hb3)
  have HR2 := Lib.hid (HP2.out.below hb3)
  clear y0 y1 y2 hb3 HM0 HM1 HM2 HP1 HP2 HRC hbw2
  have y0 := HN0.out.cell 0 _ rfl
  have y1 := HN0.out.cell 1 _ rfl
  have y2 := HN0.out.cell 2 _ rfl
  go_wp2_with fail
  refine (HTH.out _ hbw3).mono ?_
  rintro e w4 ⟨rfl, hb4⟩
  have hbw4 := below_trans hbw3 hb4
  have HX0 := Lib.hid (HN0.out.below hb4)
  have HX1 := Lib.hid (HN1.out.below hb4)
  have HX2 := Lib.hid (HN2.out.below hb4)
  have HY1 := Lib.hid (HR1.out.below hb4)
  have HY2 := Lib.hid (HR2.out.below hb4)
  clear y0 y1 y2 hb4 HN0 HN1 HN2 HR1 HR2 HTH hbw3
  go_wp2_with fail
  have hbv := hbw4.drew
  have hcv : Below w4.heap.size w4 w4.drew := (Below.refl _ _).drew
  have z : w4.drew.cell? ⟨w.heap.size, 0, none⟩ = some (.int .i64 b.limit) ∧ w4.drew.cell? ⟨w.heap.size, 1, none⟩ = some (.slice Av b.mem.length cv) ∧ w4.drew.cell? ⟨w.heap.size, 2, none⟩ = some (.slice Ar b.runs.length cr) ∧ w4.drew.cell? ⟨w1.heap.size, 0, none⟩ = some (.int .i64 b1.limit) ∧ w4.drew.cell? ⟨w1.heap.size, 1, none⟩ = some (.slice Am1 b1.mem.length cm1) ∧ w4.drew.cell? ⟨w1.heap.size, 2, none⟩ = some (.slice Ar1 b1.runs.length cr1) ∧ w4.drew.cell? ⟨w2.heap.size, 0, none⟩ = some (.int .i64 b2.limit) ∧ w4.drew.cell? ⟨w2.heap.size, 1, none⟩ = some (.slice Am2 b2.mem.length cm2) ∧ w4.drew.cell? ⟨w2.heap.size, 2, none⟩ = some (.slice Ar2 b2.runs.length cr2) := And.intro ((HX0.out.below hcv).cell 0 _ rfl) (And.intro ((HX0.out.below hcv).cell 1 _ rfl) (And.intro ((HX0.out.below hcv).cell 2 _ rfl) (And.intro ((HX1.out.below hcv).cell 0 _ rfl) (And.intro ((HX1.out.below hcv).cell 1 _ rfl) (And.intro ((HX1.out.below hcv).cell 2 _ rfl) (And.intro ((HX2.out.below hcv).cell 0 _ rfl) (And.intro ((HX2.out.below hcv).cell 1 _ rfl) ((HX2.out.below hcv).cell 2 _ rfl))))))))
  go_region_held3 (fun w' => w'.cell? ⟨w.heap.size, 0, none⟩ = some (.int .i64 b.limit) ∧ w'.cell? ⟨w.heap.size, 1, none⟩ = some (.slice Av b.mem.length cv) ∧ w'.cell? ⟨w.heap.size, 2, none⟩ = some (.slice Ar b.runs.length cr) ∧ w'.cell? ⟨w1.heap.size, 0, none⟩ = some (.int .i64 b1.limit) ∧ w'.cell? ⟨w1.heap.size, 1, none⟩ = some (.slice Am1 b1.mem.length cm1) ∧ w'.cell? ⟨w1.heap.size, 2, none⟩ = some (.slice Ar1 b1.runs.length cr1) ∧ w'.cell? ⟨w2.heap.size, 0, none⟩ = some (.int .i64 b2.limit) ∧ w'.cell? ⟨w2.heap.size, 1, none⟩ = some (.slice Am2 b2.mem.length cm2) ∧ w'.cell? ⟨w2.heap.size, 2, none⟩ = some (.slice Ar2 b2.runs.length cr2))
    (exact z)
    (first
      | (go_at_call 9; refine (HBG.out _ hbv).mono ?_; rintro e v5 ⟨rfl, hv5⟩; have hbv := below_trans hbv hv5; have hcv := below_trans hcv hv5; have z : v5.cell? ⟨w.heap.size, 0, none⟩ = some (.int .i64 b.limit) ∧ v5.cell? ⟨w.heap.size, 1, none⟩ = some (.slice Av b.mem.length cv) ∧ v5.cell? ⟨w.heap.size, 2, none⟩ = some (.slice Ar b.runs.length cr) ∧ v5.cell? ⟨w1.heap.size, 0, none⟩ = some (.int .i64 b1.limit) ∧ v5.cell? ⟨w1.heap.size, 1, none⟩ = some (.slice Am1 b1.mem.length cm1) ∧ v5.cell? ⟨w1.heap.size, 2, none⟩ = some (.slice Ar1 b1.runs.length cr1) ∧ v5.cell? ⟨w2.heap.size, 0, none⟩ = some (.int .i64 b2.limit) ∧ v5.cell? ⟨w2.heap.size, 1, none⟩ = some (.slice Am2 b2.mem.length cm2) ∧ v5.cell? ⟨w2.heap.size, 2, none⟩ = some (.slice Ar2 b2.runs.length cr2) := And.intro ((HX0.out.below hcv).cell 0 _ rfl) (And.intro ((HX0.out.below hcv).cell 1 _ rfl) (And.intro ((HX0.out.below hcv).cell 2 _ rfl) (And.intro ((HX1.out.below hcv).cell 0 _ rfl) (And.intro ((HX1.out.below hcv).cell 1 _ rfl) (And.intro ((HX1.out.below hcv).cell 2 _ rfl) (And.intro ((HX2.out.below hcv).cell 0 _ rfl) (And.intro ((HX2.out.below hcv).cell 1 _ rfl) ((HX2.out.below hcv).cell 2 _ rfl)))))))))
      | (go_at_call 11; refine (HMI.out _ hbv).mono ?_; rintro e v5 ⟨b3, rfl, hob3, hbu3, hv5⟩; obtain ⟨Am3, cm3, hvm3, -⟩ := id hob3.ok.mem.sl; obtain ⟨Ar3, cr3, hvr3, -⟩ := id hob3.ok.sl; have HS1 := Lib.hid (sameBuffers_any b1 b3 v5 (HY1.out.below (below_trans hcv hv5)) hob3.ok (HU1.out.trans hbu3.symm)); unfold Buf.agg' at HS1; rw [HVM1.out, HVR1.out, hvm3, hvr3] at HS1; rw [hvm3, hvr3]; clear hob3 hvm3 hvr3 hbu3; have hbv := below_trans hbv hv5; have hcv := below_trans hcv hv5; have z : v5.cell? ⟨w.heap.size, 0, none⟩ = some (.int .i64 b.limit) ∧ v5.cell? ⟨w.heap.size, 1, none⟩ = some (.slice Av b.mem.length cv) ∧ v5.cell? ⟨w.heap.size, 2, none⟩ = some (.slice Ar b.runs.length cr) ∧ v5.cell? ⟨w1.heap.size, 0, none⟩ = some (.int .i64 b1.limit) ∧ v5.cell? ⟨w1.heap.size, 1, none⟩ = some (.slice Am1 b1.mem.length cm1) ∧ v5.cell? ⟨w1.heap.size, 2, none⟩ = some (.slice Ar1 b1.runs.length cr1) ∧ v5.cell? ⟨w2.heap.size, 0, none⟩ = some (.int .i64 b2.limit) ∧ v5.cell? ⟨w2.heap.size, 1, none⟩ = some (.slice Am2 b2.mem.length cm2) ∧ v5.cell? ⟨w2.heap.size, 2, none⟩ = some (.slice Ar2 b2.runs.length cr2) := And.intro ((HX0.out.below hcv).cell 0 _ rfl) (And.intro ((HX0.out.below hcv).cell 1 _ rfl) (And.intro ((HX0.out.below hcv).cell 2 _ rfl) (And.intro ((HX1.out.below hcv).cell 0 _ rfl) (And.intro ((HX1.out.below hcv).cell 1 _ rfl) (And.intro ((HX1.out.below hcv).cell 2 _ rfl) (And.intro ((HX2.out.below hcv).cell 0 _ rfl) (And.intro ((HX2.out.below hcv).cell 1 _ rfl) ((HX2.out.below hcv).cell 2 _ rfl)))))))))
      | (go_at_call 12; refine (HTI.out _ hbv).mono ?_; rintro e v5 ⟨b4, rfl, hob4, hbu4, hv5⟩; obtain ⟨Am4, cm4, hvm4, -⟩ := id hob4.ok.mem.sl; obtain ⟨Ar4, cr4, hvr4, -⟩ := id hob4.ok.sl; have HS2 := Lib.hid (sameBuffers_any b2 b4 v5 (HY2.out.below (below_trans hcv hv5)) hob4.ok (HU2.out.trans hbu4.symm)); unfold Buf.agg' at HS2; rw [HVM2.out, HVR2.out, hvm4, hvr4] at HS2; rw [hvm4, hvr4]; clear hob4 hvm4 hvr4 hbu4; have hbv := below_trans hbv hv5; have hcv := below_trans hcv hv5; have z : v5.cell? ⟨w.heap.size, 0, none⟩ = some (.int .i64 b.limit) ∧ v5.cell? ⟨w.heap.size, 1, none⟩ = some (.slice Av b.mem.length cv) ∧ v5.cell? ⟨w.heap.size, 2, none⟩ = some (.slice Ar b.runs.length cr) ∧ v5.cell? ⟨w1.heap.size, 0, none⟩ = some (.int .i64 b1.limit) ∧ v5.cell? ⟨w1.heap.size, 1, none⟩ = some (.slice Am1 b1.mem.length cm1) ∧ v5.cell? ⟨w1.heap.size, 2, none⟩ = some (.slice Ar1 b1.runs.length cr1) ∧ v5.cell? ⟨w2.heap.size, 0, none⟩ = some (.int .i64 b2.limit) ∧ v5.cell? ⟨w2.heap.size, 1, none⟩ = some (.slice Am2 b2.mem.length cm2) ∧ v5.cell? ⟨w2.heap.size, 2, none⟩ = some (.slice Ar2 b2.runs.length cr2) := And.intro ((HX0.out.below hcv).cell 0 _ rfl) (And.intro ((HX0.out.below hcv).cell 1 _ rfl) (And.intro ((HX0.out.below hcv).cell 2 _ rfl) (And.intro ((HX1.out.below hcv).cell 0 _ rfl) (And.intro ((HX1.out.below hcv).cell 1 _ rfl) (And.intro ((HX1.out.below hcv).cell 2 _ rfl) (And.intro ((HX2.out.below hcv).cell 0 _ rfl) (And.intro ((HX2.out.below hcv).cell 1 _ rfl) ((HX2.out.below hcv).cell 2 _ rfl)))))))))
      | (go_at_call 10; with_reducible refine (HS1.out).mono ?_; rintro e v5 ⟨rfl, hv5⟩; have hbv := below_trans hbv hv5; have hcv := below_trans hcv hv5; have z : v5.cell? ⟨w.heap.size, 0, none⟩ = some (.int .i64 b.limit) ∧ v5.cell? ⟨w.heap.size, 1, none⟩ = some (.slice Av b.mem.length cv) ∧ v5.cell? ⟨w.heap.size, 2, none⟩ = some (.slice Ar b.runs.length cr) ∧ v5.cell? ⟨w1.heap.size, 0, none⟩ = some (.int .i64 b1.limit) ∧ v5.cell? ⟨w1.heap.size, 1, none⟩ = some (.slice Am1 b1.mem.length cm1) ∧ v5.cell? ⟨w1.heap.size, 2, none⟩ = some (.slice Ar1 b1.runs.length cr1) ∧ v5.cell? ⟨w2.heap.size, 0, none⟩ = some (.int .i64 b2.limit) ∧ v5.cell? ⟨w2.heap.size, 1, none⟩ = some (.slice Am2 b2.mem.length cm2) ∧ v5.cell? ⟨w2.heap.size, 2, none⟩ = some (.slice Ar2 b2.runs.length cr2) := And.intro ((HX0.out.below hcv).cell 0 _ rfl) (And.intro ((HX0.out.below hcv).cell 1 _ rfl) (And.intro ((HX0.out.below hcv).cell 2 _ rfl) (And.intro ((HX1.out.below hcv).cell 0 _ rfl) (And.intro ((HX1.out.below hcv).cell 1 _ rfl) (And.intro ((HX1.out.below hcv).cell 2 _ rfl) (And.intro ((HX2.out.below hcv).cell 0 _ rfl) (And.intro ((HX2.out.below hcv).cell 1 _ rfl) ((HX2.out.below hcv).cell 2 _ rfl)))))))))
      | (go_at_call 10; with_reducible refine (HS2.out).mono ?_; rintro e v5 ⟨rfl, hv5⟩; have hbv := below_trans hbv hv5; have hcv := below_trans hcv hv5; have z : v5.cell? ⟨w.heap.size, 0, none⟩ = some (.int .i64 b.limit) ∧ v5.cell? ⟨w.heap.size, 1, none⟩ = some (.slice Av b.mem.length cv) ∧ v5.cell? ⟨w.heap.size, 2, none⟩ = some (.slice Ar b.runs.length cr) ∧ v5.cell? ⟨w1.heap.size, 0, none⟩ = some (.int .i64 b1.limit) ∧ v5.cell? ⟨w1.heap.size, 1, none⟩ = some (.slice Am1 b1.mem.length cm1) ∧ v5.cell? ⟨w1.heap.size, 2, none⟩ = some (.slice Ar1 b1.runs.length cr1) ∧ v5.cell? ⟨w2.heap.size, 0, none⟩ = some (.int .i64 b2.limit) ∧ v5.cell? ⟨w2.heap.size, 1, none⟩ = some (.slice Am2 b2.mem.length cm2) ∧ v5.cell? ⟨w2.heap.size, 2, none⟩ = some (.slice Ar2 b2.runs.length cr2) := And.intro ((HX0.out.below hcv).cell 0 _ rfl) (And.intro ((HX0.out.below hcv).cell 1 _ rfl) (And.intro ((HX0.out.below hcv).cell 2 _ rfl) (And.intro ((HX1.out.below hcv).cell 0 _ rfl) (And.intro ((HX1.out.below hcv).cell 1 _ rfl) (And.intro ((HX1.out.below hcv).cell 2 _ rfl) (And.intro ((HX2.out.below hcv).cell 0 _ rfl) (And.intro ((HX2.out.below hcv).cell 1 _ rfl) ((HX2.out.below hcv).cell 2 _ rfl))))))))))
  all_goals
    clear z
    go_wp2
    go_ret
    exact ⟨rfl, hbv⟩
set_option maxHeartbeats 16000000 in
set_option maxRecDepth 100000 in
theorem turnsB (b : Buf) (key : List UInt8) (t s : Int) (w : World) (hb : b.ok w) (hf : b.fit) (hm : Mx w) (hck : checkB b.bu = 0) (his : isE b.bu.all ⟨key, t, s, [], false⟩ = false) :
    Calls Tryz.prog 3 #[b.agg, .string (str key), .int .i64 t, .int .i64 s] w fun e w' => e = .returned (.bool true) ∧ Below w.heap.size w w' := by
  have hAS : atS b.bu key t s = 9 := by
    unfold atS
    rw [if_neg (fun h => h hck)]
    rw [if_neg (by rw [his]; simp)]
  have HMT : Hid (∀ w', Below w.heap.size w w' → Calls Tryz.prog 5 #[b.agg, .string (str key), .int .i64 t, .int .i64 s] w' fun e w2 => ∃ b' : Buf, e = .returned (.tuple #[b'.agg, .int .i64 9]) ∧ OwnBuf w2 w'.heap.size b' ∧ b'.bu = noB ∧ Below w'.heap.size w' w2) := Lib.hid (fun w' h => by
    have h1 := meet_anyB b key t s w' (hb.below h) hf (hm.below h)
    rw [hAS, if_neg (by decide)] at h1
    exact h1)
  have HTK : Hid (∀ w', Below w.heap.size w w' → Calls Tryz.prog 6 #[b.agg, .string (str key), .int .i64 t, .int .i64 s] w' fun e w2 => ∃ b' : Buf, e = .returned (.tuple #[b'.agg, .int .i64 9]) ∧ OwnBuf w2 w'.heap.size b' ∧ b'.bu = noB ∧ Below w'.heap.size w' w2) := Lib.hid (fun w' h => by
    have h1 := take_anyB b key t s w' (hb.below h) hf (hm.below h)
    rw [hAS, if_neg (by decide)] at h1
    exact h1)
  have HRC : Hid (∀ w', Below w.heap.size w w' → Calls Tryz.prog 7 #[b.agg] w' fun e w2 => e = .returned (.int .i64 0) ∧ Below w'.heap.size w' w2) := Lib.hid (fun w' h => by
    have h1 := rcheck_any b w' (hb.below h) hf
    rw [hck] at h1
    exact h1)
  have hg := check_zeroB.1 hck
  have HTH : Hid (∀ w', Below w.heap.size w w' → Calls Tryz.prog 8 #[b.agg, .string (str key), .int .i64 t, .int .i64 s] w' fun e w2 => e = .returned (.bool false) ∧ Below w'.heap.size w' w2) := Lib.hid (fun w' h => by
    have h1 := there_any b key t s w' (hb.below h) hf hg
    rw [his] at h1
    exact h1)
  have HBG := Lib.hid (fun w' (h : Below w.heap.size w w') => begunB_any w' (hm.below h))
  obtain ⟨Av, cv, hvb, -⟩ := id hb.mem.sl
  obtain ⟨Ar, cr, hvr, -⟩ := id hb.sl
  unfold Buf.agg at HMT HTK HRC HTH ⊢
  rw [hvb, hvr] at HMT HTK HRC HTH ⊢
  have HK0 := Lib.hid (Blk.new w 25 #[.int .i64 b.limit, .slice Av b.mem.length cv, .slice Ar b.runs.length cr])
  have hB := below_alloc w (.cells #[.int .i64 b.limit, .slice Av b.mem.length cv, .slice Ar b.runs.length cr] 25)
  have y0 := HK0.out.cell 0 _ rfl
  have y1 := HK0.out.cell 1 _ rfl
  have y2 := HK0.out.cell 2 _ rfl
  clear hb hf hm hvb hvr hck hAS his hg
  go_enter Tryz.func3, Tryz.ntmps3
  go_wp2_with fail
  refine (HMT.out _ hB).mono ?_
  rintro e w1 ⟨b1, rfl, hob1, hbu1, hb1⟩
  obtain ⟨Am1, cm1, hvm1, -⟩ := id hob1.ok.mem.sl
  obtain ⟨Ar1, cr1, hvr1, -⟩ := id hob1.ok.sl
  have HVM1 := Lib.hid hvm1
  have HVR1 := Lib.hid hvr1
  rw [hvm1, hvr1]
  clear hvm1 hvr1
  have hbw1 := below_trans (below_trans hB hb1) (below_alloc w1 (.cells #[.int .i64 b1.limit, .slice Am1 b1.mem.length cm1, .slice Ar1 b1.runs.length cr1] 25))
  have HL0 := Lib.hid ((HK0.out.below hb1).alloc (.cells #[.int .i64 b1.limit, .slice Am1 b1.mem.length cm1, .slice Ar1 b1.runs.length cr1] 25))
  have HL1 := Lib.hid (Blk.new w1 25 #[.int .i64 b1.limit, .slice Am1 b1.mem.length cm1, .slice Ar1 b1.runs.length cr1])
  have HO1 := Lib.hid (hob1.ok.below (below_alloc w1 (.cells #[.int .i64 b1.limit, .slice Am1 b1.mem.length cm1, .slice Ar1 b1.runs.length cr1] 25)))
  have HU1 := Lib.hid hbu1
  clear y0 y1 y2 hob1 hbu1 hb1 HK0 HMT
  have y0 := HL0.out.cell 0 _ rfl
  have y1 := HL0.out.cell 1 _ rfl
  have y2 := HL0.out.cell 2 _ rfl
  go_wp2_with fail
  refine (HTK.out _ hbw1).mono ?_
  rintro e w2 ⟨b2, rfl, hob2, hbu2, hb2⟩
  obtain ⟨Am2, cm2, hvm2, -⟩ := id hob2.ok.mem.sl
  obtain ⟨Ar2, cr2, hvr2, -⟩ := id hob2.ok.sl
  have HVM2 := Lib.hid hvm2
  have HVR2 := Lib.hid hvr2
  rw [hvm2, hvr2]
  clear hvm2 hvr2
  have hbw2 := below_trans (below_trans hbw1 hb2) (below_alloc w2 (.cells #[.int .i64 b2.limit, .slice Am2 b2.mem.length cm2, .slice Ar2 b2.runs.length cr2] 25))
  have HM0 := Lib.hid ((HL0.out.below hb2).alloc (.cells #[.int .i64 b2.limit, .slice Am2 b2.mem.length cm2, .slice Ar2 b2.runs.length cr2] 25))
  have HM1 := Lib.hid ((HL1.out.below hb2).alloc (.cells #[.int .i64 b2.limit, .slice Am2 b2.mem.length cm2, .slice Ar2 b2.runs.length cr2] 25))
  have HM2 := Lib.hid (Blk.new w2 25 #[.int .i64 b2.limit, .slice Am2 b2.mem.length cm2, .slice Ar2 b2.runs.length cr2])
  have HP1 := Lib.hid ((HO1.out.below hb2).below (below_alloc w2 (.cells #[.int .i64 b2.limit, .slice Am2 b2.mem.length cm2, .slice Ar2 b2.runs.length cr2] 25)))
  have HP2 := Lib.hid (hob2.ok.below (below_alloc w2 (.cells #[.int .i64 b2.limit, .slice Am2 b2.mem.length cm2, .slice Ar2 b2.runs.length cr2] 25)))
  have HU2 := Lib.hid hbu2
  clear y0 y1 y2 hob2 hbu2 hb2 HL0 HL1 HO1 HTK hbw1
  have y0 := HM0.out.cell 0 _ rfl
  have y1 := HM0.out.cell 1 _ rfl
  have y2 := HM0.out.cell 2 _ rfl
  go_wp2_with fail
  refine (HRC.out _ hbw2).mono ?_
  rintro e w3 ⟨rfl, hb3⟩
  have hbw3 := below_trans hbw2 hb3
  have HN0 := Lib.hid (HM0.out.below hb3)
  have HN1 := Lib.hid (HM1.out.below hb3)
  have HN2 := Lib.hid (HM2.out.below hb3)
  have HR1 := Lib.hid (HP1.out.below hb3)
  have HR2 := Lib.hid (HP2.out.below hb3)
  clear y0 y1 y2 hb3 HM0 HM1 HM2 HP1 HP2 HRC hbw2
  have y0 := HN0.out.cell 0 _ rfl
  have y1 := HN0.out.cell 1 _ rfl
  have y2 := HN0.out.cell 2 _ rfl
  go_wp2_with fail
  refine (HTH.out _ hbw3).mono ?_
  rintro e w4 ⟨rfl, hb4⟩
  have hbw4 := below_trans hbw3 hb4
  have HX0 := Lib.hid (HN0.out.below hb4)
  have HX1 := Lib.hid (HN1.out.below hb4)
  have HX2 := Lib.hid (HN2.out.below hb4)
  have HY1 := Lib.hid (HR1.out.below hb4)
  have HY2 := Lib.hid (HR2.out.below hb4)
  clear y0 y1 y2 hb4 HN0 HN1 HN2 HR1 HR2 HTH hbw3
  have HS1 := Lib.hid (fun v (h : Below w4.heap.size w4 v) => sameBuffers_any b1 zB v (HY1.out.below h) (zB_ok _) (HU1.out.trans zB_bu.symm))
  unfold Buf.agg' zB at HS1
  dsimp only at HS1
  rw [HVM1.out, HVR1.out] at HS1
  have HS2 := Lib.hid (fun v (h : Below w4.heap.size w4 v) => sameBuffers_any b2 zB v (HY2.out.below h) (zB_ok _) (HU2.out.trans zB_bu.symm))
  unfold Buf.agg' zB at HS2
  dsimp only at HS2
  rw [HVM2.out, HVR2.out] at HS2
  have hbv := hbw4
  have hcv := Below.refl w4.heap.size w4
  have m0 := (HX1.out.below hcv).cell 0 _ rfl
  have m1 := (HX1.out.below hcv).cell 1 _ rfl
  have m2 := (HX1.out.below hcv).cell 2 _ rfl
  have t0 := (HX2.out.below hcv).cell 0 _ rfl
  have t1 := (HX2.out.below hcv).cell 1 _ rfl
  have t2 := (HX2.out.below hcv).cell 2 _ rfl
  go_wp2_with (first
    | (go_at_call 9; refine (HBG.out _ hbv).mono ?_; rintro e v5 ⟨rfl, hv5⟩; have hbv := below_trans hbv hv5; have hcv := below_trans hcv hv5; have m0 := (HX1.out.below hcv).cell 0 _ rfl; have m1 := (HX1.out.below hcv).cell 1 _ rfl; have m2 := (HX1.out.below hcv).cell 2 _ rfl; have t0 := (HX2.out.below hcv).cell 0 _ rfl; have t1 := (HX2.out.below hcv).cell 1 _ rfl; have t2 := (HX2.out.below hcv).cell 2 _ rfl)
    | (go_at_call 10; with_reducible refine (HS1.out _ hcv).mono ?_; rintro e v5 ⟨rfl, hv5⟩; have hbv := below_trans hbv hv5; have hcv := below_trans hcv hv5; have m0 := (HX1.out.below hcv).cell 0 _ rfl; have m1 := (HX1.out.below hcv).cell 1 _ rfl; have m2 := (HX1.out.below hcv).cell 2 _ rfl; have t0 := (HX2.out.below hcv).cell 0 _ rfl; have t1 := (HX2.out.below hcv).cell 1 _ rfl; have t2 := (HX2.out.below hcv).cell 2 _ rfl)
    | (go_at_call 10; with_reducible refine (HS2.out _ hcv).mono ?_; rintro e v5 ⟨rfl, hv5⟩; have hbv := below_trans hbv hv5; have hcv := below_trans hcv hv5; have m0 := (HX1.out.below hcv).cell 0 _ rfl; have m1 := (HX1.out.below hcv).cell 1 _ rfl; have m2 := (HX1.out.below hcv).cell 2 _ rfl; have t0 := (HX2.out.below hcv).cell 0 _ rfl; have t1 := (HX2.out.below hcv).cell 1 _ rfl; have t2 := (HX2.out.below hcv).cell 2 _ rfl))
  go_ret
  exact ⟨rfl, hbv⟩
set_option maxHeartbeats 16000000 in
set_option maxRecDepth 100000 in
theorem turnsC (b : Buf) (key : List UInt8) (t s : Int) (w : World) (hb : b.ok w) (hf : b.fit) (hm : Mx w) (ck : Int) (hck : checkB b.bu = ck) (hne : ck ≠ 0) :
    Calls Tryz.prog 3 #[b.agg, .string (str key), .int .i64 t, .int .i64 s] w fun e w' => e = .returned (.bool true) ∧ Below w.heap.size w w' := by
  have hAS : atS b.bu key t s = ck := by
    unfold atS
    rw [if_pos (by rw [hck]; exact hne), hck]
  have HMT : Hid (∀ w', Below w.heap.size w w' → Calls Tryz.prog 5 #[b.agg, .string (str key), .int .i64 t, .int .i64 s] w' fun e w2 => ∃ b' : Buf, e = .returned (.tuple #[b'.agg, .int .i64 ck]) ∧ OwnBuf w2 w'.heap.size b' ∧ b'.bu = noB ∧ Below w'.heap.size w' w2) := Lib.hid (fun w' h => by
    have h1 := meet_anyB b key t s w' (hb.below h) hf (hm.below h)
    rw [hAS, if_neg (by exact hne)] at h1
    exact h1)
  have HTK : Hid (∀ w', Below w.heap.size w w' → Calls Tryz.prog 6 #[b.agg, .string (str key), .int .i64 t, .int .i64 s] w' fun e w2 => ∃ b' : Buf, e = .returned (.tuple #[b'.agg, .int .i64 ck]) ∧ OwnBuf w2 w'.heap.size b' ∧ b'.bu = noB ∧ Below w'.heap.size w' w2) := Lib.hid (fun w' h => by
    have h1 := take_anyB b key t s w' (hb.below h) hf (hm.below h)
    rw [hAS, if_neg (by exact hne)] at h1
    exact h1)
  have HRC : Hid (∀ w', Below w.heap.size w w' → Calls Tryz.prog 7 #[b.agg] w' fun e w2 => e = .returned (.int .i64 ck) ∧ Below w'.heap.size w' w2) := Lib.hid (fun w' h => by
    have h1 := rcheck_any b w' (hb.below h) hf
    rw [hck] at h1
    exact h1)
  have HBG := Lib.hid (fun w' (h : Below w.heap.size w w') => begunB_any w' (hm.below h))
  obtain ⟨Av, cv, hvb, -⟩ := id hb.mem.sl
  obtain ⟨Ar, cr, hvr, -⟩ := id hb.sl
  unfold Buf.agg at HMT HTK HRC ⊢
  rw [hvb, hvr] at HMT HTK HRC ⊢
  have HK0 := Lib.hid (Blk.new w 25 #[.int .i64 b.limit, .slice Av b.mem.length cv, .slice Ar b.runs.length cr])
  have hB := below_alloc w (.cells #[.int .i64 b.limit, .slice Av b.mem.length cv, .slice Ar b.runs.length cr] 25)
  have y0 := HK0.out.cell 0 _ rfl
  have y1 := HK0.out.cell 1 _ rfl
  have y2 := HK0.out.cell 2 _ rfl
  have hb0 := bneT hne
  have hpp : (ck == ck) = true := beq_self_eq_true _
  have hb1 := beqF hne
  clear hb hf hm hvb hvr hck hAS hne
  go_enter Tryz.func3, Tryz.ntmps3
  go_wp2_with fail
  refine (HMT.out _ hB).mono ?_
  rintro e w1 ⟨b1, rfl, hob1, hbu1, hb1⟩
  obtain ⟨Am1, cm1, hvm1, -⟩ := id hob1.ok.mem.sl
  obtain ⟨Ar1, cr1, hvr1, -⟩ := id hob1.ok.sl
  have HVM1 := Lib.hid hvm1
  have HVR1 := Lib.hid hvr1
  rw [hvm1, hvr1]
  clear hvm1 hvr1
  have hbw1 := below_trans (below_trans hB hb1) (below_alloc w1 (.cells #[.int .i64 b1.limit, .slice Am1 b1.mem.length cm1, .slice Ar1 b1.runs.length cr1] 25))
  have HL0 := Lib.hid ((HK0.out.below hb1).alloc (.cells #[.int .i64 b1.limit, .slice Am1 b1.mem.length cm1, .slice Ar1 b1.runs.length cr1] 25))
  have HL1 := Lib.hid (Blk.new w1 25 #[.int .i64 b1.limit, .slice Am1 b1.mem.length cm1, .slice Ar1 b1.runs.length cr1])
  have HO1 := Lib.hid (hob1.ok.below (below_alloc w1 (.cells #[.int .i64 b1.limit, .slice Am1 b1.mem.length cm1, .slice Ar1 b1.runs.length cr1] 25)))
  have HU1 := Lib.hid hbu1
  clear y0 y1 y2 hob1 hbu1 hb1 HK0 HMT
  have y0 := HL0.out.cell 0 _ rfl
  have y1 := HL0.out.cell 1 _ rfl
  have y2 := HL0.out.cell 2 _ rfl
  go_wp2_with fail
  refine (HTK.out _ hbw1).mono ?_
  rintro e w2 ⟨b2, rfl, hob2, hbu2, hb2⟩
  obtain ⟨Am2, cm2, hvm2, -⟩ := id hob2.ok.mem.sl
  obtain ⟨Ar2, cr2, hvr2, -⟩ := id hob2.ok.sl
  have HVM2 := Lib.hid hvm2
  have HVR2 := Lib.hid hvr2
  rw [hvm2, hvr2]
  clear hvm2 hvr2
  have hbw2 := below_trans (below_trans hbw1 hb2) (below_alloc w2 (.cells #[.int .i64 b2.limit, .slice Am2 b2.mem.length cm2, .slice Ar2 b2.runs.length cr2] 25))
  have HM0 := Lib.hid ((HL0.out.below hb2).alloc (.cells #[.int .i64 b2.limit, .slice Am2 b2.mem.length cm2, .slice Ar2 b2.runs.length cr2] 25))
  have HM1 := Lib.hid ((HL1.out.below hb2).alloc (.cells #[.int .i64 b2.limit, .slice Am2 b2.mem.length cm2, .slice Ar2 b2.runs.length cr2] 25))
  have HM2 := Lib.hid (Blk.new w2 25 #[.int .i64 b2.limit, .slice Am2 b2.mem.length cm2, .slice Ar2 b2.runs.length cr2])
  have HP1 := Lib.hid ((HO1.out.below hb2).below (below_alloc w2 (.cells #[.int .i64 b2.limit, .slice Am2 b2.mem.length cm2, .slice Ar2 b2.runs.length cr2] 25)))
  have HP2 := Lib.hid (hob2.ok.below (below_alloc w2 (.cells #[.int .i64 b2.limit, .slice Am2 b2.mem.length cm2, .slice Ar2 b2.runs.length cr2] 25)))
  have HU2 := Lib.hid hbu2
  clear y0 y1 y2 hob2 hbu2 hb2 HL0 HL1 HO1 HTK hbw1
  have y0 := HM0.out.cell 0 _ rfl
  have y1 := HM0.out.cell 1 _ rfl
  have y2 := HM0.out.cell 2 _ rfl
  go_wp2_with fail
  refine (HRC.out _ hbw2).mono ?_
  rintro e w3 ⟨rfl, hb3⟩
  have hbw3 := below_trans hbw2 hb3
  have HN0 := Lib.hid (HM0.out.below hb3)
  have HN1 := Lib.hid (HM1.out.below hb3)
  have HN2 := Lib.hid (HM2.out.below hb3)
  have HR1 := Lib.hid (HP1.out.below hb3)
  have HR2 := Lib.hid (HP2.out.below hb3)
  clear y0 y1 y2 hb3 HM0 HM1 HM2 HP1 HP2 HRC hbw2
  have HX0 := HN0
  have HX1 := HN1
  have HX2 := HN2
  have HY1 := HR1
  have HY2 := HR2
  clear HN0 HN1 HN2 HR1 HR2
  have HS1 := Lib.hid (fun v (h : Below w3.heap.size w3 v) => sameBuffers_any b1 zB v (HY1.out.below h) (zB_ok _) (HU1.out.trans zB_bu.symm))
  unfold Buf.agg' zB at HS1
  dsimp only at HS1
  rw [HVM1.out, HVR1.out] at HS1
  have HS2 := Lib.hid (fun v (h : Below w3.heap.size w3 v) => sameBuffers_any b2 zB v (HY2.out.below h) (zB_ok _) (HU2.out.trans zB_bu.symm))
  unfold Buf.agg' zB at HS2
  dsimp only at HS2
  rw [HVM2.out, HVR2.out] at HS2
  have hbv := hbw3
  have hcv := Below.refl w3.heap.size w3
  have m0 := (HX1.out.below hcv).cell 0 _ rfl
  have m1 := (HX1.out.below hcv).cell 1 _ rfl
  have m2 := (HX1.out.below hcv).cell 2 _ rfl
  have t0 := (HX2.out.below hcv).cell 0 _ rfl
  have t1 := (HX2.out.below hcv).cell 1 _ rfl
  have t2 := (HX2.out.below hcv).cell 2 _ rfl
  go_wp2_with (first
    | (go_at_call 9; refine (HBG.out _ hbv).mono ?_; rintro e v5 ⟨rfl, hv5⟩; have hbv := below_trans hbv hv5; have hcv := below_trans hcv hv5; have m0 := (HX1.out.below hcv).cell 0 _ rfl; have m1 := (HX1.out.below hcv).cell 1 _ rfl; have m2 := (HX1.out.below hcv).cell 2 _ rfl; have t0 := (HX2.out.below hcv).cell 0 _ rfl; have t1 := (HX2.out.below hcv).cell 1 _ rfl; have t2 := (HX2.out.below hcv).cell 2 _ rfl)
    | (go_at_call 10; with_reducible refine (HS1.out _ hcv).mono ?_; rintro e v5 ⟨rfl, hv5⟩; have hbv := below_trans hbv hv5; have hcv := below_trans hcv hv5; have m0 := (HX1.out.below hcv).cell 0 _ rfl; have m1 := (HX1.out.below hcv).cell 1 _ rfl; have m2 := (HX1.out.below hcv).cell 2 _ rfl; have t0 := (HX2.out.below hcv).cell 0 _ rfl; have t1 := (HX2.out.below hcv).cell 1 _ rfl; have t2 := (HX2.out.below hcv).cell 2 _ rfl)
    | (go_at_call 10; with_reducible refine (HS2.out _ hcv).mono ?_; rintro e v5 ⟨rfl, hv5⟩; have hbv := below_trans hbv hv5; have hcv := below_trans hcv hv5; have m0 := (HX1.out.below hcv).cell 0 _ rfl; have m1 := (HX1.out.below hcv).cell 1 _ rfl; have m2 := (HX1.out.below hcv).cell 2 _ rfl; have t0 := (HX2.out.below hcv).cell 0 _ rfl; have t1 := (HX2.out.below hcv).cell 1 _ rfl; have t2 := (HX2.out.below hcv).cell 2 _ rfl))
  go_ret
  exact ⟨rfl, hbv⟩
theorem bufferTurns_walk (b : Buf) (key : List UInt8) (t s : Int) (w : World) (hb : b.ok w) (hf : b.fit) (hm : Mx w) :
    Calls Tryz.prog 3 #[b.agg, .string (str key), .int .i64 t, .int .i64 s] w fun e w' => e = .returned (.bool true) ∧ Below w.heap.size w w' := by
  by_cases h : checkB b.bu = 0
  · cases h2 : isE b.bu.all ⟨key, t, s, [], false⟩ with
    | true => exact turnsA b key t s w hb hf hm h h2
    | false => exact turnsB b key t s w hb hf hm h h2
  · exact turnsC b key t s w hb hf hm _ rfl h
end Go.Proofs.YteabfalklgffmaaGreatDoor
