/-
  BufferPuts.
-/
import Derived.Test.YteabfalklgffmaaDoorBuf28
set_option linter.unusedSimpArgs false
set_option linter.unusedVariables false
namespace Go.Proofs.YteabfalklgffmaaDoor
open Go.RowKit

theorem newB_yes {limit : Int} (h : inB limit 1 64 = true) : newB limit = (limit, 0) := if_pos h
theorem newB_no {limit : Int} (h : ¬ inB limit 1 64 = true) : newB limit = (0, 3) := if_neg h
def oB (limit : Int) : Buf := ⟨limit, .slice none 0 0, [], .slice none 0 0, []⟩
theorem oB_ok (limit : Int) (w : World) : (oB limit).ok w := ⟨Ents.nil w, Sl.nil_ w, nofun⟩

set_option maxHeartbeats 16000000 in
set_option maxRecDepth 100000 in
theorem bufferPuts_walk (b : Buf) (x : Ent) (limit : Int) (w : World) (hb : b.ok w) (hf : b.fit) (hs : Sl w x.v x.e.r.length (rowCells x.e.r)) (hfx : FineE x.e) (hm : Mx w) :
    Calls Tryd.prog 3 #[b.agg, x.agg, .int .i64 limit] w fun e w' => e = .returned (.bool true) ∧ Below w.heap.size w w' := by
  have HPU := Lib.hid (fun w' (h : Below w.heap.size w w') => put_any b x w' (hb.below h) hf (hs.below h) hfx (hm.below h))
  have HCH := Lib.hid (fun w' (h : Below w.heap.size w w') => check_any b w' (hb.below h) hf (hm.below h))
  have HRC := Lib.hid (fun w' (h : Below w.heap.size w w') => rcheck_any b w' (hb.below h) hf)
  have HPE := Lib.hid (fun (hg : GoodB b.bu) w' (h : Below w.heap.size w w') => putError_any b x w' (hb.below h) hf hg (hs.below h) hfx)
  have HPI := Lib.hid (fun (hg : GoodB b.bu) (hn : isE b.bu.all x.e = false) w' (h : Below w.heap.size w w') => putIn_any b x w' (hb.below h) hf hg (hs.below h) hfx.len hn)
  have HBG := Lib.hid (fun w' (h : Below w.heap.size w w') => begunB_any w' (hm.below h))
  have HNW := Lib.hid (fun w' => new_any limit w')
  have HR : Hid (putS b.bu x.e = if checkB b.bu ≠ 0 then (noB, checkB b.bu) else if putE b.bu x.e ≠ 0 then (noB, putE b.bu x.e) else (putB b.bu x.e, 0)) := Lib.hid rfl
  have HPZ : Hid (putE b.bu x.e = 0 → isE b.bu.all x.e = false) := Lib.hid (fun h => by
    unfold putE at h
    by_cases h1 : okE x.e = false
    · rw [if_pos h1] at h; cases h
    · rw [if_neg h1] at h
      by_cases h2 : isE b.bu.all x.e = true
      · rw [if_pos h2] at h; cases h
      · simpa using h2)
  have HGD := Lib.hid (check_zeroB (b := b.bu))
  generalize putS b.bu x.e = R at HR HPU
  generalize hck : checkB b.bu = ck at HR HGD HCH HRC
  generalize hpe : putE b.bu x.e = pe at HR HPE HPZ
  obtain ⟨Ax, cx, hvx, -⟩ := id hs
  obtain ⟨Av, cv, hvb, -⟩ := id hb.mem.sl
  obtain ⟨Ar, cr, hvr, -⟩ := id hb.sl
  unfold Buf.agg at HPU HCH HRC HPE HPI ⊢
  unfold Ent.agg at HPU HPE HPI ⊢
  rw [hvx, hvb, hvr] at HPU HPE HPI ⊢
  rw [hvb, hvr] at HCH HRC
  have B0 := new_first w 25 #[.int .i64 b.limit, .slice Av b.mem.length cv, .slice Ar b.runs.length cr] (.cells #[.string (str x.e.key), .int .i64 x.e.t, .int .i64 x.e.s, .slice Ax x.e.r.length cx, .bool x.e.met] 28)
  have B1 := new_second w 28 #[.string (str x.e.key), .int .i64 x.e.t, .int .i64 x.e.s, .slice Ax x.e.r.length cx, .bool x.e.met] (.cells #[.int .i64 b.limit, .slice Av b.mem.length cv, .slice Ar b.runs.length cr] 25)
  have HK0 := Lib.hid B0
  have HK1 := Lib.hid B1
  have hB := below_trans (below_alloc w (.cells #[.int .i64 b.limit, .slice Av b.mem.length cv, .slice Ar b.runs.length cr] 25)) (below_alloc _ (.cells #[.string (str x.e.key), .int .i64 x.e.t, .int .i64 x.e.s, .slice Ax x.e.r.length cx, .bool x.e.met] 28))
  clear hb hf hs hfx hm hvx hvb hvr B0 B1 hck hpe
  have hi : inB limit 1 64 = decide (1 ≤ limit ∧ limit ≤ 64) := rfl
  go_enter Tryd.func3, Tryd.ntmps3
  go_wp2_with fail
  refine (HNW.out _).mono ?_
  rintro e w1 ⟨rfl, hb1⟩
  have hbw1 := below_trans hB hb1
  have HA0 := Lib.hid (HK0.out.below hb1)
  have HA1 := Lib.hid (HK1.out.below hb1)
  have hw1 := hbw1.size
  clear HK0 HK1 hb1 hB HNW
  by_cases h1 : 1 ≤ limit
  · by_cases h2 : limit ≤ 64
    · rw [newB_yes (by rw [hi]; exact decide_eq_true ⟨h1, h2⟩)]
      have hbA := below_trans (below_trans hbw1 (below_alloc w1 (.cells #[.int .i64 limit, .slice none 0 0, .slice none 0 0] 25))) (below_alloc _ (.cells #[.int .i64 limit, .slice none 0 0, .slice none 0 0] 25))
      have k0 := (HA0.out.alloc (.cells #[.int .i64 limit, .slice none 0 0, .slice none 0 0] 25)).alloc (.cells #[.int .i64 limit, .slice none 0 0, .slice none 0 0] 25)
      have k1 := (HA1.out.alloc (.cells #[.int .i64 limit, .slice none 0 0, .slice none 0 0] 25)).alloc (.cells #[.int .i64 limit, .slice none 0 0, .slice none 0 0] 25)
      have k7 := (Blk.new w1 25 #[.int .i64 limit, .slice none 0 0, .slice none 0 0]).alloc (.cells #[.int .i64 limit, .slice none 0 0, .slice none 0 0] 25)
      have k9 := Blk.new (w1.alloc (.cells #[.int .i64 limit, .slice none 0 0, .slice none 0 0] 25)) 25 #[.int .i64 limit, .slice none 0 0, .slice none 0 0]
      simp only [World.size_alloc] at k9
      have j0 := k0
      have j1 := k1
      have j7 := k7
      have hbZ := hbA
      have J9 : Blk ((w1.alloc (.cells #[.int .i64 limit, .slice none 0 0, .slice none 0 0] 25)).alloc (.cells #[.int .i64 limit, .slice none 0 0, .slice none 0 0] 25)) (w1.heap.size + 1) 25 #[.int .i64 limit, .slice none 0 0, .slice none 0 0] := k9
      have y0 := j0.cell 0 _ rfl
      have y1 := j0.cell 1 _ rfl
      have y2 := j0.cell 2 _ rfl
      have x0 := j1.cell 0 _ rfl
      have x1 := j1.cell 1 _ rfl
      have x2 := j1.cell 2 _ rfl
      have x3 := j1.cell 3 _ rfl
      have x4 := j1.cell 4 _ rfl
      have HJ0 := Lib.hid j0
      have HJ1 := Lib.hid j1
      have HJ7 := Lib.hid j7
      have HJ9 := Lib.hid J9
      clear k0 k1 k7 k9 j0 j1 j7 J9 hbA HA0 HA1
      go_wp2_with fail
      refine (HPU.out _ hbZ).mono ?_
      rintro e w2 ⟨b1, rfl, hob1, hbu1, hb2⟩
      obtain ⟨Am1, cm1, hvm1, -⟩ := id hob1.ok.mem.sl
      obtain ⟨Ar1, cr1, hvr1, -⟩ := id hob1.ok.sl
      rw [hvm1, hvr1]
      have hbw2 := below_trans (below_trans hbZ hb2) (below_alloc w2 (.cells #[.int .i64 b1.limit, .slice Am1 b1.mem.length cm1, .slice Ar1 b1.runs.length cr1] 25))
      have HL0 := Lib.hid ((HJ0.out.below hb2).alloc (.cells #[.int .i64 b1.limit, .slice Am1 b1.mem.length cm1, .slice Ar1 b1.runs.length cr1] 25))
      have HL1 := Lib.hid ((HJ1.out.below hb2).alloc (.cells #[.int .i64 b1.limit, .slice Am1 b1.mem.length cm1, .slice Ar1 b1.runs.length cr1] 25))
      have HL7 := Lib.hid ((HJ7.out.below hb2).alloc (.cells #[.int .i64 b1.limit, .slice Am1 b1.mem.length cm1, .slice Ar1 b1.runs.length cr1] 25))
      have HL9 := Lib.hid ((HJ9.out.below hb2).alloc (.cells #[.int .i64 b1.limit, .slice Am1 b1.mem.length cm1, .slice Ar1 b1.runs.length cr1] 25))
      have HL11 := Lib.hid (Blk.new w2 25 #[.int .i64 b1.limit, .slice Am1 b1.mem.length cm1, .slice Ar1 b1.runs.length cr1])
      have HO1 := Lib.hid (hob1.below (below_alloc w2 (.cells #[.int .i64 b1.limit, .slice Am1 b1.mem.length cm1, .slice Ar1 b1.runs.length cr1] 25)))
      have HOFF := Lib.hid (fun (o : Nat) (h : w2.heap.size ≤ o) => hob1.off h)
      have HBU1 := Lib.hid hbu1
      have HV1 := Lib.hid hvm1
      have HV2 := Lib.hid hvr1
      have HCX := Lib.hid (HRC.out _ hbw2)
      clear y0 y1 y2 x0 x1 x2 x3 x4 hob1 hvm1 hvr1 hbu1 hb2 HJ0 HJ1 HJ7 HJ9
      have y0 := HL0.out.cell 0 _ rfl
      have y1 := HL0.out.cell 1 _ rfl
      have y2 := HL0.out.cell 2 _ rfl
      go_wp2_with fail
      refine HCX.out.mono ?_
      rintro e w3 ⟨rfl, hb3⟩
      have hbw3 := below_trans hbw2 hb3
      have HM0 := Lib.hid (HL0.out.below hb3)
      have HM1 := Lib.hid (HL1.out.below hb3)
      have HM7 := Lib.hid (HL7.out.below hb3)
      have HM9 := Lib.hid (HL9.out.below hb3)
      have HM11 := Lib.hid (HL11.out.below hb3)
      have HO2 := Lib.hid (HO1.out.below hb3)
      clear y0 y1 y2 HL0 HL1 HL7 HL9 HL11 HO1 hb3 HCX hbw2
      by_cases hz : ck = 0
      · have HG := Lib.hid (HGD.out.1 hz)
        have HR2 := Lib.hid (HR.out.trans (if_neg (fun h => h hz)))
        subst hz
        have y0 := HM0.out.cell 0 _ rfl
        have y1 := HM0.out.cell 1 _ rfl
        have y2 := HM0.out.cell 2 _ rfl
        have x0 := HM1.out.cell 0 _ rfl
        have x1 := HM1.out.cell 1 _ rfl
        have x2 := HM1.out.cell 2 _ rfl
        have x3 := HM1.out.cell 3 _ rfl
        have x4 := HM1.out.cell 4 _ rfl
        have HPX := Lib.hid (HPE.out HG.out _ hbw3)
        go_wp2_with fail
        refine HPX.out.mono ?_
        rintro e w4 ⟨rfl, hb4⟩
        have hbw4 := below_trans hbw3 hb4
        have HN0 := Lib.hid (HM0.out.below hb4)
        have HN1 := Lib.hid (HM1.out.below hb4)
        have HN7 := Lib.hid (HM7.out.below hb4)
        have HN9 := Lib.hid (HM9.out.below hb4)
        have HN11 := Lib.hid (HM11.out.below hb4)
        have HO3 := Lib.hid (HO2.out.below hb4)
        clear y0 y1 y2 x0 x1 x2 x3 x4 HM0 HM1 HM7 HM9 HM11 HO2 hb4 HPX hbw3
        by_cases hp : pe = 0
        · have HNI := Lib.hid (HPZ.out hp)
          have HR3 := Lib.hid (HR2.out.trans (if_neg (fun h => h hp)))
          subst hp
          have l0 := HN0.out.lt
          have l7 := HN7.out.lt
          have l9 := HN9.out.lt
          have l11 := HN11.out.lt
          have hbw5 := below_trans hbw4 (below_alloc w4 (.cells #[.int .i64 0, .slice none 0 0, .slice none 0 0] 25))
          have HP0 := Lib.hid (HN0.out.alloc (.cells #[.int .i64 0, .slice none 0 0, .slice none 0 0] 25))
          have HP1 := Lib.hid (HN1.out.alloc (.cells #[.int .i64 0, .slice none 0 0, .slice none 0 0] 25))
          have HP7 := Lib.hid (HN7.out.alloc (.cells #[.int .i64 0, .slice none 0 0, .slice none 0 0] 25))
          have HP9 := Lib.hid (HN9.out.alloc (.cells #[.int .i64 0, .slice none 0 0, .slice none 0 0] 25))
          have HP11 := Lib.hid (HN11.out.alloc (.cells #[.int .i64 0, .slice none 0 0, .slice none 0 0] 25))
          have HP14 := Lib.hid (Blk.new w4 25 #[.int .i64 0, .slice none 0 0, .slice none 0 0])
          have HO4 := Lib.hid (HO3.out.below (below_alloc w4 (.cells #[.int .i64 0, .slice none 0 0, .slice none 0 0] 25)))
          have HF1 := Lib.hid (HOFF.out _ (Nat.le_of_lt l11))
          have y0 := HP0.out.cell 0 _ rfl
          have y1 := HP0.out.cell 1 _ rfl
          have y2 := HP0.out.cell 2 _ rfl
          have x0 := HP1.out.cell 0 _ rfl
          have x1 := HP1.out.cell 1 _ rfl
          have x2 := HP1.out.cell 2 _ rfl
          have x3 := HP1.out.cell 3 _ rfl
          have x4 := HP1.out.cell 4 _ rfl
          have HIN := Lib.hid (HPI.out HG.out HNI.out _ hbw5)
          clear HN0 HN1 HN7 HN9 HN11 HO3 hbw4
          go_wp2_with fail
          refine HIN.out.mono ?_
          rintro e w6 ⟨b2, rfl, hob2, hbu2, hb6⟩
          obtain ⟨Am2, cm2, hvm2, -⟩ := id hob2.ok.mem.sl
          obtain ⟨Ar2, cr2, hvr2, -⟩ := id hob2.ok.sl
          rw [hvm2, hvr2]
          have K14 := HP14.out.below hb6
          have c0 := K14.cell 0 _ rfl
          have c1 := K14.cell 1 _ rfl
          have c2 := K14.cell 2 _ rfl
          have g0 := K14.free 0
          have g1 := K14.free 1
          have g2 := K14.free 2
          have HQ0 := Lib.hid ((((HP0.out.below hb6).far (p := ⟨w4.heap.size, 0, none⟩) (by show w.heap.size ≠ w4.heap.size; omega) (.int .i64 b2.limit)).far (p := ⟨w4.heap.size, 1, none⟩) (by show w.heap.size ≠ w4.heap.size; omega) (.slice Am2 b2.mem.length cm2)).far (p := ⟨w4.heap.size, 2, none⟩) (by show w.heap.size ≠ w4.heap.size; omega) (.slice Ar2 b2.runs.length cr2))
          have HQ7 := Lib.hid ((((HP7.out.below hb6).far (p := ⟨w4.heap.size, 0, none⟩) (by show w1.heap.size ≠ w4.heap.size; omega) (.int .i64 b2.limit)).far (p := ⟨w4.heap.size, 1, none⟩) (by show w1.heap.size ≠ w4.heap.size; omega) (.slice Am2 b2.mem.length cm2)).far (p := ⟨w4.heap.size, 2, none⟩) (by show w1.heap.size ≠ w4.heap.size; omega) (.slice Ar2 b2.runs.length cr2))
          have HQ9 := Lib.hid ((((HP9.out.below hb6).far (p := ⟨w4.heap.size, 0, none⟩) (by show w1.heap.size + 1 ≠ w4.heap.size; omega) (.int .i64 b2.limit)).far (p := ⟨w4.heap.size, 1, none⟩) (by show w1.heap.size + 1 ≠ w4.heap.size; omega) (.slice Am2 b2.mem.length cm2)).far (p := ⟨w4.heap.size, 2, none⟩) (by show w1.heap.size + 1 ≠ w4.heap.size; omega) (.slice Ar2 b2.runs.length cr2))
          have HQ11 := Lib.hid ((((HP11.out.below hb6).far (p := ⟨w4.heap.size, 0, none⟩) (by show w2.heap.size ≠ w4.heap.size; omega) (.int .i64 b2.limit)).far (p := ⟨w4.heap.size, 1, none⟩) (by show w2.heap.size ≠ w4.heap.size; omega) (.slice Am2 b2.mem.length cm2)).far (p := ⟨w4.heap.size, 2, none⟩) (by show w2.heap.size ≠ w4.heap.size; omega) (.slice Ar2 b2.runs.length cr2))
          have HQ14 := Lib.hid (((K14.set_ 0 (.int .i64 b2.limit)).set_ 1 (.slice Am2 b2.mem.length cm2)).set_ 2 (.slice Ar2 b2.runs.length cr2))
          have hq : ∀ i, w.heap.size ≤ (⟨w4.heap.size, i, none⟩ : Addr).block := fun i => by show w.heap.size ≤ w4.heap.size; omega
          have hpp : ∀ i, (⟨w4.heap.size, i, none⟩ : Addr).block < (w4.alloc (.cells #[.int .i64 0, .slice none 0 0, .slice none 0 0] 25)).heap.size := fun i => by simp
          have hbW := (((below_trans hbw5 hb6).setCell (hq 0) (.int .i64 b2.limit)).setCell (hq 1) (.slice Am2 b2.mem.length cm2)).setCell (hq 2) (.slice Ar2 b2.runs.length cr2)
          have HW2 := Lib.hid (((hob2.setFar (hpp 0) (.int .i64 b2.limit)).setFar (hpp 1) (.slice Am2 b2.mem.length cm2)).setFar (hpp 2) (.slice Ar2 b2.runs.length cr2)).ok
          have HW1 := Lib.hid ((((HO4.out.below hb6).setOff (p := ⟨w4.heap.size, 0, none⟩) HF1.out (.int .i64 b2.limit)).setOff (p := ⟨w4.heap.size, 1, none⟩) HF1.out (.slice Am2 b2.mem.length cm2)).setOff (p := ⟨w4.heap.size, 2, none⟩) HF1.out (.slice Ar2 b2.runs.length cr2)).ok
          have HEQ : Hid (b1.bu = b2.bu) := Lib.hid (by rw [HBU1.out, HR3.out, hbu2])
          have HRC2 : Hid (R.2 = 0) := Lib.hid (by rw [HR3.out])
          rw [HRC2.out]
          have hVM2 := Lib.hid hvm2
          have hVR2 := Lib.hid hvr2
          clear y0 y1 y2 x0 x1 x2 x3 x4 hob2 hvm2 hvr2 hbu2 hq hpp K14 hb6 HP0 HP1 HP7 HP9 HP11 HP14 HO4 hbw5 HIN
          go_wp2_with fail
          have HVM2 := hVM2
          have HVR2 := hVR2
          obtain ⟨WW, hWW⟩ : ∃ WW, ((w6.setCell ⟨w4.heap.size, 0, none⟩ (.int .i64 b2.limit)).setCell ⟨w4.heap.size, 1, none⟩ (.slice Am2 b2.mem.length cm2)).setCell ⟨w4.heap.size, 2, none⟩ (.slice Ar2 b2.runs.length cr2) = WW := ⟨_, rfl⟩
          rw [hWW] at HQ0 HQ7 HQ9 HQ11 HQ14 hbW HW1 HW2 ⊢
          clear hWW
          have HSA := Lib.hid (fun v => sameBuffers_any (oB limit) (oB limit) v (oB_ok _ _) (oB_ok _ _) rfl)
          unfold Buf.agg' oB at HSA
          dsimp only at HSA
          have HSB := Lib.hid (fun v (h : Below WW.heap.size WW v) => sameBuffers_any b1 b2 v (HW1.out.below h) (HW2.out.below h) HEQ.out)
          unfold Buf.agg' at HSB
          rw [HV1.out, HV2.out, HVM2.out, HVR2.out] at HSB
          have hbv := hbW.drew
          have hcv : Below WW.heap.size WW WW.drew := (Below.refl _ _).drew
          have z : WW.drew.cell? ⟨w1.heap.size, 0, none⟩ = some (.int .i64 limit) ∧ WW.drew.cell? ⟨w1.heap.size, 1, none⟩ = some (.slice none 0 0) ∧ WW.drew.cell? ⟨w1.heap.size, 2, none⟩ = some (.slice none 0 0) ∧ WW.drew.cell? ⟨w1.heap.size + 1, 0, none⟩ = some (.int .i64 limit) ∧ WW.drew.cell? ⟨w1.heap.size + 1, 1, none⟩ = some (.slice none 0 0) ∧ WW.drew.cell? ⟨w1.heap.size + 1, 2, none⟩ = some (.slice none 0 0) ∧ WW.drew.cell? ⟨w.heap.size, 0, none⟩ = some (.int .i64 b.limit) ∧ WW.drew.cell? ⟨w.heap.size, 1, none⟩ = some (.slice Av b.mem.length cv) ∧ WW.drew.cell? ⟨w.heap.size, 2, none⟩ = some (.slice Ar b.runs.length cr) ∧ WW.drew.cell? ⟨w2.heap.size, 0, none⟩ = some (.int .i64 b1.limit) ∧ WW.drew.cell? ⟨w2.heap.size, 1, none⟩ = some (.slice Am1 b1.mem.length cm1) ∧ WW.drew.cell? ⟨w2.heap.size, 2, none⟩ = some (.slice Ar1 b1.runs.length cr1) ∧ WW.drew.cell? ⟨w4.heap.size, 0, none⟩ = some (.int .i64 b2.limit) ∧ WW.drew.cell? ⟨w4.heap.size, 1, none⟩ = some (.slice Am2 b2.mem.length cm2) ∧ WW.drew.cell? ⟨w4.heap.size, 2, none⟩ = some (.slice Ar2 b2.runs.length cr2) := And.intro (HQ7.out.cell 0 _ rfl) (And.intro (HQ7.out.cell 1 _ rfl) (And.intro (HQ7.out.cell 2 _ rfl) (And.intro (HQ9.out.cell 0 _ rfl) (And.intro (HQ9.out.cell 1 _ rfl) (And.intro (HQ9.out.cell 2 _ rfl) (And.intro (HQ0.out.cell 0 _ rfl) (And.intro (HQ0.out.cell 1 _ rfl) (And.intro (HQ0.out.cell 2 _ rfl) (And.intro (HQ11.out.cell 0 _ rfl) (And.intro (HQ11.out.cell 1 _ rfl) (And.intro (HQ11.out.cell 2 _ rfl) (And.intro (HQ14.out.cell 0 _ rfl) (And.intro (HQ14.out.cell 1 _ rfl) (HQ14.out.cell 2 _ rfl))))))))))))))
          go_region_held3 (fun w' => w'.cell? ⟨w1.heap.size, 0, none⟩ = some (.int .i64 limit) ∧ w'.cell? ⟨w1.heap.size, 1, none⟩ = some (.slice none 0 0) ∧ w'.cell? ⟨w1.heap.size, 2, none⟩ = some (.slice none 0 0) ∧ w'.cell? ⟨w1.heap.size + 1, 0, none⟩ = some (.int .i64 limit) ∧ w'.cell? ⟨w1.heap.size + 1, 1, none⟩ = some (.slice none 0 0) ∧ w'.cell? ⟨w1.heap.size + 1, 2, none⟩ = some (.slice none 0 0) ∧ w'.cell? ⟨w.heap.size, 0, none⟩ = some (.int .i64 b.limit) ∧ w'.cell? ⟨w.heap.size, 1, none⟩ = some (.slice Av b.mem.length cv) ∧ w'.cell? ⟨w.heap.size, 2, none⟩ = some (.slice Ar b.runs.length cr) ∧ w'.cell? ⟨w2.heap.size, 0, none⟩ = some (.int .i64 b1.limit) ∧ w'.cell? ⟨w2.heap.size, 1, none⟩ = some (.slice Am1 b1.mem.length cm1) ∧ w'.cell? ⟨w2.heap.size, 2, none⟩ = some (.slice Ar1 b1.runs.length cr1) ∧ w'.cell? ⟨w4.heap.size, 0, none⟩ = some (.int .i64 b2.limit) ∧ w'.cell? ⟨w4.heap.size, 1, none⟩ = some (.slice Am2 b2.mem.length cm2) ∧ w'.cell? ⟨w4.heap.size, 2, none⟩ = some (.slice Ar2 b2.runs.length cr2))
            (exact z)
            (first
              | (go_at_call 10; refine (HBG.out _ hbv).mono ?_; rintro e v5 ⟨rfl, hv5⟩; have hbv := below_trans hbv hv5; have hcv := below_trans hcv hv5; have z : v5.cell? ⟨w1.heap.size, 0, none⟩ = some (.int .i64 limit) ∧ v5.cell? ⟨w1.heap.size, 1, none⟩ = some (.slice none 0 0) ∧ v5.cell? ⟨w1.heap.size, 2, none⟩ = some (.slice none 0 0) ∧ v5.cell? ⟨w1.heap.size + 1, 0, none⟩ = some (.int .i64 limit) ∧ v5.cell? ⟨w1.heap.size + 1, 1, none⟩ = some (.slice none 0 0) ∧ v5.cell? ⟨w1.heap.size + 1, 2, none⟩ = some (.slice none 0 0) ∧ v5.cell? ⟨w.heap.size, 0, none⟩ = some (.int .i64 b.limit) ∧ v5.cell? ⟨w.heap.size, 1, none⟩ = some (.slice Av b.mem.length cv) ∧ v5.cell? ⟨w.heap.size, 2, none⟩ = some (.slice Ar b.runs.length cr) ∧ v5.cell? ⟨w2.heap.size, 0, none⟩ = some (.int .i64 b1.limit) ∧ v5.cell? ⟨w2.heap.size, 1, none⟩ = some (.slice Am1 b1.mem.length cm1) ∧ v5.cell? ⟨w2.heap.size, 2, none⟩ = some (.slice Ar1 b1.runs.length cr1) ∧ v5.cell? ⟨w4.heap.size, 0, none⟩ = some (.int .i64 b2.limit) ∧ v5.cell? ⟨w4.heap.size, 1, none⟩ = some (.slice Am2 b2.mem.length cm2) ∧ v5.cell? ⟨w4.heap.size, 2, none⟩ = some (.slice Ar2 b2.runs.length cr2) := And.intro ((HQ7.out.below hcv).cell 0 _ rfl) (And.intro ((HQ7.out.below hcv).cell 1 _ rfl) (And.intro ((HQ7.out.below hcv).cell 2 _ rfl) (And.intro ((HQ9.out.below hcv).cell 0 _ rfl) (And.intro ((HQ9.out.below hcv).cell 1 _ rfl) (And.intro ((HQ9.out.below hcv).cell 2 _ rfl) (And.intro ((HQ0.out.below hcv).cell 0 _ rfl) (And.intro ((HQ0.out.below hcv).cell 1 _ rfl) (And.intro ((HQ0.out.below hcv).cell 2 _ rfl) (And.intro ((HQ11.out.below hcv).cell 0 _ rfl) (And.intro ((HQ11.out.below hcv).cell 1 _ rfl) (And.intro ((HQ11.out.below hcv).cell 2 _ rfl) (And.intro ((HQ14.out.below hcv).cell 0 _ rfl) (And.intro ((HQ14.out.below hcv).cell 1 _ rfl) ((HQ14.out.below hcv).cell 2 _ rfl)))))))))))))))
              | (go_at_call 11; with_reducible refine (HSA.out _).mono ?_; rintro e v5 ⟨rfl, hv5⟩; have hbv := below_trans hbv hv5; have hcv := below_trans hcv hv5; have z : v5.cell? ⟨w1.heap.size, 0, none⟩ = some (.int .i64 limit) ∧ v5.cell? ⟨w1.heap.size, 1, none⟩ = some (.slice none 0 0) ∧ v5.cell? ⟨w1.heap.size, 2, none⟩ = some (.slice none 0 0) ∧ v5.cell? ⟨w1.heap.size + 1, 0, none⟩ = some (.int .i64 limit) ∧ v5.cell? ⟨w1.heap.size + 1, 1, none⟩ = some (.slice none 0 0) ∧ v5.cell? ⟨w1.heap.size + 1, 2, none⟩ = some (.slice none 0 0) ∧ v5.cell? ⟨w.heap.size, 0, none⟩ = some (.int .i64 b.limit) ∧ v5.cell? ⟨w.heap.size, 1, none⟩ = some (.slice Av b.mem.length cv) ∧ v5.cell? ⟨w.heap.size, 2, none⟩ = some (.slice Ar b.runs.length cr) ∧ v5.cell? ⟨w2.heap.size, 0, none⟩ = some (.int .i64 b1.limit) ∧ v5.cell? ⟨w2.heap.size, 1, none⟩ = some (.slice Am1 b1.mem.length cm1) ∧ v5.cell? ⟨w2.heap.size, 2, none⟩ = some (.slice Ar1 b1.runs.length cr1) ∧ v5.cell? ⟨w4.heap.size, 0, none⟩ = some (.int .i64 b2.limit) ∧ v5.cell? ⟨w4.heap.size, 1, none⟩ = some (.slice Am2 b2.mem.length cm2) ∧ v5.cell? ⟨w4.heap.size, 2, none⟩ = some (.slice Ar2 b2.runs.length cr2) := And.intro ((HQ7.out.below hcv).cell 0 _ rfl) (And.intro ((HQ7.out.below hcv).cell 1 _ rfl) (And.intro ((HQ7.out.below hcv).cell 2 _ rfl) (And.intro ((HQ9.out.below hcv).cell 0 _ rfl) (And.intro ((HQ9.out.below hcv).cell 1 _ rfl) (And.intro ((HQ9.out.below hcv).cell 2 _ rfl) (And.intro ((HQ0.out.below hcv).cell 0 _ rfl) (And.intro ((HQ0.out.below hcv).cell 1 _ rfl) (And.intro ((HQ0.out.below hcv).cell 2 _ rfl) (And.intro ((HQ11.out.below hcv).cell 0 _ rfl) (And.intro ((HQ11.out.below hcv).cell 1 _ rfl) (And.intro ((HQ11.out.below hcv).cell 2 _ rfl) (And.intro ((HQ14.out.below hcv).cell 0 _ rfl) (And.intro ((HQ14.out.below hcv).cell 1 _ rfl) ((HQ14.out.below hcv).cell 2 _ rfl)))))))))))))))
              | (go_at_call 11; with_reducible refine (HSB.out _ hcv).mono ?_; rintro e v5 ⟨rfl, hv5⟩; have hbv := below_trans hbv hv5; have hcv := below_trans hcv hv5; have z : v5.cell? ⟨w1.heap.size, 0, none⟩ = some (.int .i64 limit) ∧ v5.cell? ⟨w1.heap.size, 1, none⟩ = some (.slice none 0 0) ∧ v5.cell? ⟨w1.heap.size, 2, none⟩ = some (.slice none 0 0) ∧ v5.cell? ⟨w1.heap.size + 1, 0, none⟩ = some (.int .i64 limit) ∧ v5.cell? ⟨w1.heap.size + 1, 1, none⟩ = some (.slice none 0 0) ∧ v5.cell? ⟨w1.heap.size + 1, 2, none⟩ = some (.slice none 0 0) ∧ v5.cell? ⟨w.heap.size, 0, none⟩ = some (.int .i64 b.limit) ∧ v5.cell? ⟨w.heap.size, 1, none⟩ = some (.slice Av b.mem.length cv) ∧ v5.cell? ⟨w.heap.size, 2, none⟩ = some (.slice Ar b.runs.length cr) ∧ v5.cell? ⟨w2.heap.size, 0, none⟩ = some (.int .i64 b1.limit) ∧ v5.cell? ⟨w2.heap.size, 1, none⟩ = some (.slice Am1 b1.mem.length cm1) ∧ v5.cell? ⟨w2.heap.size, 2, none⟩ = some (.slice Ar1 b1.runs.length cr1) ∧ v5.cell? ⟨w4.heap.size, 0, none⟩ = some (.int .i64 b2.limit) ∧ v5.cell? ⟨w4.heap.size, 1, none⟩ = some (.slice Am2 b2.mem.length cm2) ∧ v5.cell? ⟨w4.heap.size, 2, none⟩ = some (.slice Ar2 b2.runs.length cr2) := And.intro ((HQ7.out.below hcv).cell 0 _ rfl) (And.intro ((HQ7.out.below hcv).cell 1 _ rfl) (And.intro ((HQ7.out.below hcv).cell 2 _ rfl) (And.intro ((HQ9.out.below hcv).cell 0 _ rfl) (And.intro ((HQ9.out.below hcv).cell 1 _ rfl) (And.intro ((HQ9.out.below hcv).cell 2 _ rfl) (And.intro ((HQ0.out.below hcv).cell 0 _ rfl) (And.intro ((HQ0.out.below hcv).cell 1 _ rfl) (And.intro ((HQ0.out.below hcv).cell 2 _ rfl) (And.intro ((HQ11.out.below hcv).cell 0 _ rfl) (And.intro ((HQ11.out.below hcv).cell 1 _ rfl) (And.intro ((HQ11.out.below hcv).cell 2 _ rfl) (And.intro ((HQ14.out.below hcv).cell 0 _ rfl) (And.intro ((HQ14.out.below hcv).cell 1 _ rfl) ((HQ14.out.below hcv).cell 2 _ rfl)))))))))))))))
              | (go_at_call 12; refine (HCH.out _ hbv).mono ?_; rintro e v5 ⟨rfl, hv5⟩; have hbv := below_trans hbv hv5; have hcv := below_trans hcv hv5; have z : v5.cell? ⟨w1.heap.size, 0, none⟩ = some (.int .i64 limit) ∧ v5.cell? ⟨w1.heap.size, 1, none⟩ = some (.slice none 0 0) ∧ v5.cell? ⟨w1.heap.size, 2, none⟩ = some (.slice none 0 0) ∧ v5.cell? ⟨w1.heap.size + 1, 0, none⟩ = some (.int .i64 limit) ∧ v5.cell? ⟨w1.heap.size + 1, 1, none⟩ = some (.slice none 0 0) ∧ v5.cell? ⟨w1.heap.size + 1, 2, none⟩ = some (.slice none 0 0) ∧ v5.cell? ⟨w.heap.size, 0, none⟩ = some (.int .i64 b.limit) ∧ v5.cell? ⟨w.heap.size, 1, none⟩ = some (.slice Av b.mem.length cv) ∧ v5.cell? ⟨w.heap.size, 2, none⟩ = some (.slice Ar b.runs.length cr) ∧ v5.cell? ⟨w2.heap.size, 0, none⟩ = some (.int .i64 b1.limit) ∧ v5.cell? ⟨w2.heap.size, 1, none⟩ = some (.slice Am1 b1.mem.length cm1) ∧ v5.cell? ⟨w2.heap.size, 2, none⟩ = some (.slice Ar1 b1.runs.length cr1) ∧ v5.cell? ⟨w4.heap.size, 0, none⟩ = some (.int .i64 b2.limit) ∧ v5.cell? ⟨w4.heap.size, 1, none⟩ = some (.slice Am2 b2.mem.length cm2) ∧ v5.cell? ⟨w4.heap.size, 2, none⟩ = some (.slice Ar2 b2.runs.length cr2) := And.intro ((HQ7.out.below hcv).cell 0 _ rfl) (And.intro ((HQ7.out.below hcv).cell 1 _ rfl) (And.intro ((HQ7.out.below hcv).cell 2 _ rfl) (And.intro ((HQ9.out.below hcv).cell 0 _ rfl) (And.intro ((HQ9.out.below hcv).cell 1 _ rfl) (And.intro ((HQ9.out.below hcv).cell 2 _ rfl) (And.intro ((HQ0.out.below hcv).cell 0 _ rfl) (And.intro ((HQ0.out.below hcv).cell 1 _ rfl) (And.intro ((HQ0.out.below hcv).cell 2 _ rfl) (And.intro ((HQ11.out.below hcv).cell 0 _ rfl) (And.intro ((HQ11.out.below hcv).cell 1 _ rfl) (And.intro ((HQ11.out.below hcv).cell 2 _ rfl) (And.intro ((HQ14.out.below hcv).cell 0 _ rfl) (And.intro ((HQ14.out.below hcv).cell 1 _ rfl) ((HQ14.out.below hcv).cell 2 _ rfl)))))))))))))))
              | (go_at_call 7; refine (HRC.out _ hbv).mono ?_; rintro e v5 ⟨rfl, hv5⟩; have hbv := below_trans hbv hv5; have hcv := below_trans hcv hv5; have z : v5.cell? ⟨w1.heap.size, 0, none⟩ = some (.int .i64 limit) ∧ v5.cell? ⟨w1.heap.size, 1, none⟩ = some (.slice none 0 0) ∧ v5.cell? ⟨w1.heap.size, 2, none⟩ = some (.slice none 0 0) ∧ v5.cell? ⟨w1.heap.size + 1, 0, none⟩ = some (.int .i64 limit) ∧ v5.cell? ⟨w1.heap.size + 1, 1, none⟩ = some (.slice none 0 0) ∧ v5.cell? ⟨w1.heap.size + 1, 2, none⟩ = some (.slice none 0 0) ∧ v5.cell? ⟨w.heap.size, 0, none⟩ = some (.int .i64 b.limit) ∧ v5.cell? ⟨w.heap.size, 1, none⟩ = some (.slice Av b.mem.length cv) ∧ v5.cell? ⟨w.heap.size, 2, none⟩ = some (.slice Ar b.runs.length cr) ∧ v5.cell? ⟨w2.heap.size, 0, none⟩ = some (.int .i64 b1.limit) ∧ v5.cell? ⟨w2.heap.size, 1, none⟩ = some (.slice Am1 b1.mem.length cm1) ∧ v5.cell? ⟨w2.heap.size, 2, none⟩ = some (.slice Ar1 b1.runs.length cr1) ∧ v5.cell? ⟨w4.heap.size, 0, none⟩ = some (.int .i64 b2.limit) ∧ v5.cell? ⟨w4.heap.size, 1, none⟩ = some (.slice Am2 b2.mem.length cm2) ∧ v5.cell? ⟨w4.heap.size, 2, none⟩ = some (.slice Ar2 b2.runs.length cr2) := And.intro ((HQ7.out.below hcv).cell 0 _ rfl) (And.intro ((HQ7.out.below hcv).cell 1 _ rfl) (And.intro ((HQ7.out.below hcv).cell 2 _ rfl) (And.intro ((HQ9.out.below hcv).cell 0 _ rfl) (And.intro ((HQ9.out.below hcv).cell 1 _ rfl) (And.intro ((HQ9.out.below hcv).cell 2 _ rfl) (And.intro ((HQ0.out.below hcv).cell 0 _ rfl) (And.intro ((HQ0.out.below hcv).cell 1 _ rfl) (And.intro ((HQ0.out.below hcv).cell 2 _ rfl) (And.intro ((HQ11.out.below hcv).cell 0 _ rfl) (And.intro ((HQ11.out.below hcv).cell 1 _ rfl) (And.intro ((HQ11.out.below hcv).cell 2 _ rfl) (And.intro ((HQ14.out.below hcv).cell 0 _ rfl) (And.intro ((HQ14.out.below hcv).cell 1 _ rfl) ((HQ14.out.below hcv).cell 2 _ rfl))))))))))))))))
          all_goals
            clear z
            go_wp2
            go_ret
            exact ⟨rfl, hbv⟩
        · have HR3 := Lib.hid (HR2.out.trans (if_pos hp))
          have hb0 := beqF hp
          have hpp : (pe == pe) = true := beq_self_eq_true _
          have hbW := below_trans hbw4 (below_alloc w4 (.cells #[.int .i64 0, .slice none 0 0, .slice none 0 0] 25))
          have HQ0 := Lib.hid (HN0.out.alloc (.cells #[.int .i64 0, .slice none 0 0, .slice none 0 0] 25))
          have HQ7 := Lib.hid (HN7.out.alloc (.cells #[.int .i64 0, .slice none 0 0, .slice none 0 0] 25))
          have HQ9 := Lib.hid (HN9.out.alloc (.cells #[.int .i64 0, .slice none 0 0, .slice none 0 0] 25))
          have HQ11 := Lib.hid (HN11.out.alloc (.cells #[.int .i64 0, .slice none 0 0, .slice none 0 0] 25))
          have HQ14 := Lib.hid (Blk.new w4 25 #[.int .i64 0, .slice none 0 0, .slice none 0 0])
          have HW1 := Lib.hid ((HO3.out.below (below_alloc w4 (.cells #[.int .i64 0, .slice none 0 0, .slice none 0 0] 25))).ok)
          have HW2 := Lib.hid (oB_ok 0 (w4.alloc (.cells #[.int .i64 0, .slice none 0 0, .slice none 0 0] 25)))
          have HEQ : Hid (b1.bu = (oB 0).bu) := Lib.hid (by rw [HBU1.out, HR3.out]; rfl)
          have HRC2 : Hid (R.2 = pe) := Lib.hid (by rw [HR3.out])
          rw [HRC2.out]
          clear hp HN0 HN1 HN7 HN9 HN11 HO3 hbw4
          go_wp2_with fail
          obtain ⟨WW, hWW⟩ : ∃ WW, w4.alloc (.cells #[.int .i64 0, .slice none 0 0, .slice none 0 0] 25) = WW := ⟨_, rfl⟩
          rw [hWW] at HQ0 HQ7 HQ9 HQ11 HQ14 hbW HW1 HW2 ⊢
          clear hWW
          have HSA := Lib.hid (fun v => sameBuffers_any (oB limit) (oB limit) v (oB_ok _ _) (oB_ok _ _) rfl)
          unfold Buf.agg' oB at HSA
          dsimp only at HSA
          have HSB := Lib.hid (fun v (h : Below WW.heap.size WW v) => sameBuffers_any b1 (oB 0) v (HW1.out.below h) (HW2.out.below h) HEQ.out)
          unfold Buf.agg' oB at HSB
          dsimp only at HSB
          rw [HV1.out, HV2.out] at HSB
          have hbv := hbW.drew
          have hcv : Below WW.heap.size WW WW.drew := (Below.refl _ _).drew
          have z : WW.drew.cell? ⟨w1.heap.size, 0, none⟩ = some (.int .i64 limit) ∧ WW.drew.cell? ⟨w1.heap.size, 1, none⟩ = some (.slice none 0 0) ∧ WW.drew.cell? ⟨w1.heap.size, 2, none⟩ = some (.slice none 0 0) ∧ WW.drew.cell? ⟨w1.heap.size + 1, 0, none⟩ = some (.int .i64 limit) ∧ WW.drew.cell? ⟨w1.heap.size + 1, 1, none⟩ = some (.slice none 0 0) ∧ WW.drew.cell? ⟨w1.heap.size + 1, 2, none⟩ = some (.slice none 0 0) ∧ WW.drew.cell? ⟨w.heap.size, 0, none⟩ = some (.int .i64 b.limit) ∧ WW.drew.cell? ⟨w.heap.size, 1, none⟩ = some (.slice Av b.mem.length cv) ∧ WW.drew.cell? ⟨w.heap.size, 2, none⟩ = some (.slice Ar b.runs.length cr) ∧ WW.drew.cell? ⟨w2.heap.size, 0, none⟩ = some (.int .i64 b1.limit) ∧ WW.drew.cell? ⟨w2.heap.size, 1, none⟩ = some (.slice Am1 b1.mem.length cm1) ∧ WW.drew.cell? ⟨w2.heap.size, 2, none⟩ = some (.slice Ar1 b1.runs.length cr1) ∧ WW.drew.cell? ⟨w4.heap.size, 0, none⟩ = some (.int .i64 0) ∧ WW.drew.cell? ⟨w4.heap.size, 1, none⟩ = some (.slice none 0 0) ∧ WW.drew.cell? ⟨w4.heap.size, 2, none⟩ = some (.slice none 0 0) := And.intro (HQ7.out.cell 0 _ rfl) (And.intro (HQ7.out.cell 1 _ rfl) (And.intro (HQ7.out.cell 2 _ rfl) (And.intro (HQ9.out.cell 0 _ rfl) (And.intro (HQ9.out.cell 1 _ rfl) (And.intro (HQ9.out.cell 2 _ rfl) (And.intro (HQ0.out.cell 0 _ rfl) (And.intro (HQ0.out.cell 1 _ rfl) (And.intro (HQ0.out.cell 2 _ rfl) (And.intro (HQ11.out.cell 0 _ rfl) (And.intro (HQ11.out.cell 1 _ rfl) (And.intro (HQ11.out.cell 2 _ rfl) (And.intro (HQ14.out.cell 0 _ rfl) (And.intro (HQ14.out.cell 1 _ rfl) (HQ14.out.cell 2 _ rfl))))))))))))))
          go_region_held3 (fun w' => w'.cell? ⟨w1.heap.size, 0, none⟩ = some (.int .i64 limit) ∧ w'.cell? ⟨w1.heap.size, 1, none⟩ = some (.slice none 0 0) ∧ w'.cell? ⟨w1.heap.size, 2, none⟩ = some (.slice none 0 0) ∧ w'.cell? ⟨w1.heap.size + 1, 0, none⟩ = some (.int .i64 limit) ∧ w'.cell? ⟨w1.heap.size + 1, 1, none⟩ = some (.slice none 0 0) ∧ w'.cell? ⟨w1.heap.size + 1, 2, none⟩ = some (.slice none 0 0) ∧ w'.cell? ⟨w.heap.size, 0, none⟩ = some (.int .i64 b.limit) ∧ w'.cell? ⟨w.heap.size, 1, none⟩ = some (.slice Av b.mem.length cv) ∧ w'.cell? ⟨w.heap.size, 2, none⟩ = some (.slice Ar b.runs.length cr) ∧ w'.cell? ⟨w2.heap.size, 0, none⟩ = some (.int .i64 b1.limit) ∧ w'.cell? ⟨w2.heap.size, 1, none⟩ = some (.slice Am1 b1.mem.length cm1) ∧ w'.cell? ⟨w2.heap.size, 2, none⟩ = some (.slice Ar1 b1.runs.length cr1) ∧ w'.cell? ⟨w4.heap.size, 0, none⟩ = some (.int .i64 0) ∧ w'.cell? ⟨w4.heap.size, 1, none⟩ = some (.slice none 0 0) ∧ w'.cell? ⟨w4.heap.size, 2, none⟩ = some (.slice none 0 0))
            (exact z)
            (first
              | (go_at_call 10; refine (HBG.out _ hbv).mono ?_; rintro e v5 ⟨rfl, hv5⟩; have hbv := below_trans hbv hv5; have hcv := below_trans hcv hv5; have z : v5.cell? ⟨w1.heap.size, 0, none⟩ = some (.int .i64 limit) ∧ v5.cell? ⟨w1.heap.size, 1, none⟩ = some (.slice none 0 0) ∧ v5.cell? ⟨w1.heap.size, 2, none⟩ = some (.slice none 0 0) ∧ v5.cell? ⟨w1.heap.size + 1, 0, none⟩ = some (.int .i64 limit) ∧ v5.cell? ⟨w1.heap.size + 1, 1, none⟩ = some (.slice none 0 0) ∧ v5.cell? ⟨w1.heap.size + 1, 2, none⟩ = some (.slice none 0 0) ∧ v5.cell? ⟨w.heap.size, 0, none⟩ = some (.int .i64 b.limit) ∧ v5.cell? ⟨w.heap.size, 1, none⟩ = some (.slice Av b.mem.length cv) ∧ v5.cell? ⟨w.heap.size, 2, none⟩ = some (.slice Ar b.runs.length cr) ∧ v5.cell? ⟨w2.heap.size, 0, none⟩ = some (.int .i64 b1.limit) ∧ v5.cell? ⟨w2.heap.size, 1, none⟩ = some (.slice Am1 b1.mem.length cm1) ∧ v5.cell? ⟨w2.heap.size, 2, none⟩ = some (.slice Ar1 b1.runs.length cr1) ∧ v5.cell? ⟨w4.heap.size, 0, none⟩ = some (.int .i64 0) ∧ v5.cell? ⟨w4.heap.size, 1, none⟩ = some (.slice none 0 0) ∧ v5.cell? ⟨w4.heap.size, 2, none⟩ = some (.slice none 0 0) := And.intro ((HQ7.out.below hcv).cell 0 _ rfl) (And.intro ((HQ7.out.below hcv).cell 1 _ rfl) (And.intro ((HQ7.out.below hcv).cell 2 _ rfl) (And.intro ((HQ9.out.below hcv).cell 0 _ rfl) (And.intro ((HQ9.out.below hcv).cell 1 _ rfl) (And.intro ((HQ9.out.below hcv).cell 2 _ rfl) (And.intro ((HQ0.out.below hcv).cell 0 _ rfl) (And.intro ((HQ0.out.below hcv).cell 1 _ rfl) (And.intro ((HQ0.out.below hcv).cell 2 _ rfl) (And.intro ((HQ11.out.below hcv).cell 0 _ rfl) (And.intro ((HQ11.out.below hcv).cell 1 _ rfl) (And.intro ((HQ11.out.below hcv).cell 2 _ rfl) (And.intro ((HQ14.out.below hcv).cell 0 _ rfl) (And.intro ((HQ14.out.below hcv).cell 1 _ rfl) ((HQ14.out.below hcv).cell 2 _ rfl)))))))))))))))
              | (go_at_call 11; with_reducible refine (HSA.out _).mono ?_; rintro e v5 ⟨rfl, hv5⟩; have hbv := below_trans hbv hv5; have hcv := below_trans hcv hv5; have z : v5.cell? ⟨w1.heap.size, 0, none⟩ = some (.int .i64 limit) ∧ v5.cell? ⟨w1.heap.size, 1, none⟩ = some (.slice none 0 0) ∧ v5.cell? ⟨w1.heap.size, 2, none⟩ = some (.slice none 0 0) ∧ v5.cell? ⟨w1.heap.size + 1, 0, none⟩ = some (.int .i64 limit) ∧ v5.cell? ⟨w1.heap.size + 1, 1, none⟩ = some (.slice none 0 0) ∧ v5.cell? ⟨w1.heap.size + 1, 2, none⟩ = some (.slice none 0 0) ∧ v5.cell? ⟨w.heap.size, 0, none⟩ = some (.int .i64 b.limit) ∧ v5.cell? ⟨w.heap.size, 1, none⟩ = some (.slice Av b.mem.length cv) ∧ v5.cell? ⟨w.heap.size, 2, none⟩ = some (.slice Ar b.runs.length cr) ∧ v5.cell? ⟨w2.heap.size, 0, none⟩ = some (.int .i64 b1.limit) ∧ v5.cell? ⟨w2.heap.size, 1, none⟩ = some (.slice Am1 b1.mem.length cm1) ∧ v5.cell? ⟨w2.heap.size, 2, none⟩ = some (.slice Ar1 b1.runs.length cr1) ∧ v5.cell? ⟨w4.heap.size, 0, none⟩ = some (.int .i64 0) ∧ v5.cell? ⟨w4.heap.size, 1, none⟩ = some (.slice none 0 0) ∧ v5.cell? ⟨w4.heap.size, 2, none⟩ = some (.slice none 0 0) := And.intro ((HQ7.out.below hcv).cell 0 _ rfl) (And.intro ((HQ7.out.below hcv).cell 1 _ rfl) (And.intro ((HQ7.out.below hcv).cell 2 _ rfl) (And.intro ((HQ9.out.below hcv).cell 0 _ rfl) (And.intro ((HQ9.out.below hcv).cell 1 _ rfl) (And.intro ((HQ9.out.below hcv).cell 2 _ rfl) (And.intro ((HQ0.out.below hcv).cell 0 _ rfl) (And.intro ((HQ0.out.below hcv).cell 1 _ rfl) (And.intro ((HQ0.out.below hcv).cell 2 _ rfl) (And.intro ((HQ11.out.below hcv).cell 0 _ rfl) (And.intro ((HQ11.out.below hcv).cell 1 _ rfl) (And.intro ((HQ11.out.below hcv).cell 2 _ rfl) (And.intro ((HQ14.out.below hcv).cell 0 _ rfl) (And.intro ((HQ14.out.below hcv).cell 1 _ rfl) ((HQ14.out.below hcv).cell 2 _ rfl)))))))))))))))
              | (go_at_call 11; with_reducible refine (HSB.out _ hcv).mono ?_; rintro e v5 ⟨rfl, hv5⟩; have hbv := below_trans hbv hv5; have hcv := below_trans hcv hv5; have z : v5.cell? ⟨w1.heap.size, 0, none⟩ = some (.int .i64 limit) ∧ v5.cell? ⟨w1.heap.size, 1, none⟩ = some (.slice none 0 0) ∧ v5.cell? ⟨w1.heap.size, 2, none⟩ = some (.slice none 0 0) ∧ v5.cell? ⟨w1.heap.size + 1, 0, none⟩ = some (.int .i64 limit) ∧ v5.cell? ⟨w1.heap.size + 1, 1, none⟩ = some (.slice none 0 0) ∧ v5.cell? ⟨w1.heap.size + 1, 2, none⟩ = some (.slice none 0 0) ∧ v5.cell? ⟨w.heap.size, 0, none⟩ = some (.int .i64 b.limit) ∧ v5.cell? ⟨w.heap.size, 1, none⟩ = some (.slice Av b.mem.length cv) ∧ v5.cell? ⟨w.heap.size, 2, none⟩ = some (.slice Ar b.runs.length cr) ∧ v5.cell? ⟨w2.heap.size, 0, none⟩ = some (.int .i64 b1.limit) ∧ v5.cell? ⟨w2.heap.size, 1, none⟩ = some (.slice Am1 b1.mem.length cm1) ∧ v5.cell? ⟨w2.heap.size, 2, none⟩ = some (.slice Ar1 b1.runs.length cr1) ∧ v5.cell? ⟨w4.heap.size, 0, none⟩ = some (.int .i64 0) ∧ v5.cell? ⟨w4.heap.size, 1, none⟩ = some (.slice none 0 0) ∧ v5.cell? ⟨w4.heap.size, 2, none⟩ = some (.slice none 0 0) := And.intro ((HQ7.out.below hcv).cell 0 _ rfl) (And.intro ((HQ7.out.below hcv).cell 1 _ rfl) (And.intro ((HQ7.out.below hcv).cell 2 _ rfl) (And.intro ((HQ9.out.below hcv).cell 0 _ rfl) (And.intro ((HQ9.out.below hcv).cell 1 _ rfl) (And.intro ((HQ9.out.below hcv).cell 2 _ rfl) (And.intro ((HQ0.out.below hcv).cell 0 _ rfl) (And.intro ((HQ0.out.below hcv).cell 1 _ rfl) (And.intro ((HQ0.out.below hcv).cell 2 _ rfl) (And.intro ((HQ11.out.below hcv).cell 0 _ rfl) (And.intro ((HQ11.out.below hcv).cell 1 _ rfl) (And.intro ((HQ11.out.below hcv).cell 2 _ rfl) (And.intro ((HQ14.out.below hcv).cell 0 _ rfl) (And.intro ((HQ14.out.below hcv).cell 1 _ rfl) ((HQ14.out.below hcv).cell 2 _ rfl)))))))))))))))
              | (go_at_call 12; refine (HCH.out _ hbv).mono ?_; rintro e v5 ⟨rfl, hv5⟩; have hbv := below_trans hbv hv5; have hcv := below_trans hcv hv5; have z : v5.cell? ⟨w1.heap.size, 0, none⟩ = some (.int .i64 limit) ∧ v5.cell? ⟨w1.heap.size, 1, none⟩ = some (.slice none 0 0) ∧ v5.cell? ⟨w1.heap.size, 2, none⟩ = some (.slice none 0 0) ∧ v5.cell? ⟨w1.heap.size + 1, 0, none⟩ = some (.int .i64 limit) ∧ v5.cell? ⟨w1.heap.size + 1, 1, none⟩ = some (.slice none 0 0) ∧ v5.cell? ⟨w1.heap.size + 1, 2, none⟩ = some (.slice none 0 0) ∧ v5.cell? ⟨w.heap.size, 0, none⟩ = some (.int .i64 b.limit) ∧ v5.cell? ⟨w.heap.size, 1, none⟩ = some (.slice Av b.mem.length cv) ∧ v5.cell? ⟨w.heap.size, 2, none⟩ = some (.slice Ar b.runs.length cr) ∧ v5.cell? ⟨w2.heap.size, 0, none⟩ = some (.int .i64 b1.limit) ∧ v5.cell? ⟨w2.heap.size, 1, none⟩ = some (.slice Am1 b1.mem.length cm1) ∧ v5.cell? ⟨w2.heap.size, 2, none⟩ = some (.slice Ar1 b1.runs.length cr1) ∧ v5.cell? ⟨w4.heap.size, 0, none⟩ = some (.int .i64 0) ∧ v5.cell? ⟨w4.heap.size, 1, none⟩ = some (.slice none 0 0) ∧ v5.cell? ⟨w4.heap.size, 2, none⟩ = some (.slice none 0 0) := And.intro ((HQ7.out.below hcv).cell 0 _ rfl) (And.intro ((HQ7.out.below hcv).cell 1 _ rfl) (And.intro ((HQ7.out.below hcv).cell 2 _ rfl) (And.intro ((HQ9.out.below hcv).cell 0 _ rfl) (And.intro ((HQ9.out.below hcv).cell 1 _ rfl) (And.intro ((HQ9.out.below hcv).cell 2 _ rfl) (And.intro ((HQ0.out.below hcv).cell 0 _ rfl) (And.intro ((HQ0.out.below hcv).cell 1 _ rfl) (And.intro ((HQ0.out.below hcv).cell 2 _ rfl) (And.intro ((HQ11.out.below hcv).cell 0 _ rfl) (And.intro ((HQ11.out.below hcv).cell 1 _ rfl) (And.intro ((HQ11.out.below hcv).cell 2 _ rfl) (And.intro ((HQ14.out.below hcv).cell 0 _ rfl) (And.intro ((HQ14.out.below hcv).cell 1 _ rfl) ((HQ14.out.below hcv).cell 2 _ rfl)))))))))))))))
              | (go_at_call 7; refine (HRC.out _ hbv).mono ?_; rintro e v5 ⟨rfl, hv5⟩; have hbv := below_trans hbv hv5; have hcv := below_trans hcv hv5; have z : v5.cell? ⟨w1.heap.size, 0, none⟩ = some (.int .i64 limit) ∧ v5.cell? ⟨w1.heap.size, 1, none⟩ = some (.slice none 0 0) ∧ v5.cell? ⟨w1.heap.size, 2, none⟩ = some (.slice none 0 0) ∧ v5.cell? ⟨w1.heap.size + 1, 0, none⟩ = some (.int .i64 limit) ∧ v5.cell? ⟨w1.heap.size + 1, 1, none⟩ = some (.slice none 0 0) ∧ v5.cell? ⟨w1.heap.size + 1, 2, none⟩ = some (.slice none 0 0) ∧ v5.cell? ⟨w.heap.size, 0, none⟩ = some (.int .i64 b.limit) ∧ v5.cell? ⟨w.heap.size, 1, none⟩ = some (.slice Av b.mem.length cv) ∧ v5.cell? ⟨w.heap.size, 2, none⟩ = some (.slice Ar b.runs.length cr) ∧ v5.cell? ⟨w2.heap.size, 0, none⟩ = some (.int .i64 b1.limit) ∧ v5.cell? ⟨w2.heap.size, 1, none⟩ = some (.slice Am1 b1.mem.length cm1) ∧ v5.cell? ⟨w2.heap.size, 2, none⟩ = some (.slice Ar1 b1.runs.length cr1) ∧ v5.cell? ⟨w4.heap.size, 0, none⟩ = some (.int .i64 0) ∧ v5.cell? ⟨w4.heap.size, 1, none⟩ = some (.slice none 0 0) ∧ v5.cell? ⟨w4.heap.size, 2, none⟩ = some (.slice none 0 0) := And.intro ((HQ7.out.below hcv).cell 0 _ rfl) (And.intro ((HQ7.out.below hcv).cell 1 _ rfl) (And.intro ((HQ7.out.below hcv).cell 2 _ rfl) (And.intro ((HQ9.out.below hcv).cell 0 _ rfl) (And.intro ((HQ9.out.below hcv).cell 1 _ rfl) (And.intro ((HQ9.out.below hcv).cell 2 _ rfl) (And.intro ((HQ0.out.below hcv).cell 0 _ rfl) (And.intro ((HQ0.out.below hcv).cell 1 _ rfl) (And.intro ((HQ0.out.below hcv).cell 2 _ rfl) (And.intro ((HQ11.out.below hcv).cell 0 _ rfl) (And.intro ((HQ11.out.below hcv).cell 1 _ rfl) (And.intro ((HQ11.out.below hcv).cell 2 _ rfl) (And.intro ((HQ14.out.below hcv).cell 0 _ rfl) (And.intro ((HQ14.out.below hcv).cell 1 _ rfl) ((HQ14.out.below hcv).cell 2 _ rfl))))))))))))))))
          all_goals
            clear z
            go_wp2
            go_ret
            exact ⟨rfl, hbv⟩
      · have HR3 := Lib.hid (HR.out.trans (if_pos hz))
        have hb0 := beqF hz
        have hpp : (ck == ck) = true := beq_self_eq_true _
        have hbW := below_trans hbw3 (below_alloc w3 (.cells #[.int .i64 0, .slice none 0 0, .slice none 0 0] 25))
        have HQ0 := Lib.hid (HM0.out.alloc (.cells #[.int .i64 0, .slice none 0 0, .slice none 0 0] 25))
        have HQ7 := Lib.hid (HM7.out.alloc (.cells #[.int .i64 0, .slice none 0 0, .slice none 0 0] 25))
        have HQ9 := Lib.hid (HM9.out.alloc (.cells #[.int .i64 0, .slice none 0 0, .slice none 0 0] 25))
        have HQ11 := Lib.hid (HM11.out.alloc (.cells #[.int .i64 0, .slice none 0 0, .slice none 0 0] 25))
        have HQ14 := Lib.hid (Blk.new w3 25 #[.int .i64 0, .slice none 0 0, .slice none 0 0])
        have HW1 := Lib.hid ((HO2.out.below (below_alloc w3 (.cells #[.int .i64 0, .slice none 0 0, .slice none 0 0] 25))).ok)
        have HW2 := Lib.hid (oB_ok 0 (w3.alloc (.cells #[.int .i64 0, .slice none 0 0, .slice none 0 0] 25)))
        have HEQ : Hid (b1.bu = (oB 0).bu) := Lib.hid (by rw [HBU1.out, HR3.out]; rfl)
        have HRC2 : Hid (R.2 = ck) := Lib.hid (by rw [HR3.out])
        rw [HRC2.out]
        clear hz HM0 HM1 HM7 HM9 HM11 HO2 hbw3
        go_wp2_with fail
        obtain ⟨WW, hWW⟩ : ∃ WW, w3.alloc (.cells #[.int .i64 0, .slice none 0 0, .slice none 0 0] 25) = WW := ⟨_, rfl⟩
        rw [hWW] at HQ0 HQ7 HQ9 HQ11 HQ14 hbW HW1 HW2 ⊢
        clear hWW
        have HSA := Lib.hid (fun v => sameBuffers_any (oB limit) (oB limit) v (oB_ok _ _) (oB_ok _ _) rfl)
        unfold Buf.agg' oB at HSA
        dsimp only at HSA
        have HSB := Lib.hid (fun v (h : Below WW.heap.size WW v) => sameBuffers_any b1 (oB 0) v (HW1.out.below h) (HW2.out.below h) HEQ.out)
        unfold Buf.agg' oB at HSB
        dsimp only at HSB
        rw [HV1.out, HV2.out] at HSB
        have hbv := hbW.drew
        have hcv : Below WW.heap.size WW WW.drew := (Below.refl _ _).drew
        have z : WW.drew.cell? ⟨w1.heap.size, 0, none⟩ = some (.int .i64 limit) ∧ WW.drew.cell? ⟨w1.heap.size, 1, none⟩ = some (.slice none 0 0) ∧ WW.drew.cell? ⟨w1.heap.size, 2, none⟩ = some (.slice none 0 0) ∧ WW.drew.cell? ⟨w1.heap.size + 1, 0, none⟩ = some (.int .i64 limit) ∧ WW.drew.cell? ⟨w1.heap.size + 1, 1, none⟩ = some (.slice none 0 0) ∧ WW.drew.cell? ⟨w1.heap.size + 1, 2, none⟩ = some (.slice none 0 0) ∧ WW.drew.cell? ⟨w.heap.size, 0, none⟩ = some (.int .i64 b.limit) ∧ WW.drew.cell? ⟨w.heap.size, 1, none⟩ = some (.slice Av b.mem.length cv) ∧ WW.drew.cell? ⟨w.heap.size, 2, none⟩ = some (.slice Ar b.runs.length cr) ∧ WW.drew.cell? ⟨w2.heap.size, 0, none⟩ = some (.int .i64 b1.limit) ∧ WW.drew.cell? ⟨w2.heap.size, 1, none⟩ = some (.slice Am1 b1.mem.length cm1) ∧ WW.drew.cell? ⟨w2.heap.size, 2, none⟩ = some (.slice Ar1 b1.runs.length cr1) ∧ WW.drew.cell? ⟨w3.heap.size, 0, none⟩ = some (.int .i64 0) ∧ WW.drew.cell? ⟨w3.heap.size, 1, none⟩ = some (.slice none 0 0) ∧ WW.drew.cell? ⟨w3.heap.size, 2, none⟩ = some (.slice none 0 0) := And.intro (HQ7.out.cell 0 _ rfl) (And.intro (HQ7.out.cell 1 _ rfl) (And.intro (HQ7.out.cell 2 _ rfl) (And.intro (HQ9.out.cell 0 _ rfl) (And.intro (HQ9.out.cell 1 _ rfl) (And.intro (HQ9.out.cell 2 _ rfl) (And.intro (HQ0.out.cell 0 _ rfl) (And.intro (HQ0.out.cell 1 _ rfl) (And.intro (HQ0.out.cell 2 _ rfl) (And.intro (HQ11.out.cell 0 _ rfl) (And.intro (HQ11.out.cell 1 _ rfl) (And.intro (HQ11.out.cell 2 _ rfl) (And.intro (HQ14.out.cell 0 _ rfl) (And.intro (HQ14.out.cell 1 _ rfl) (HQ14.out.cell 2 _ rfl))))))))))))))
        go_region_held3 (fun w' => w'.cell? ⟨w1.heap.size, 0, none⟩ = some (.int .i64 limit) ∧ w'.cell? ⟨w1.heap.size, 1, none⟩ = some (.slice none 0 0) ∧ w'.cell? ⟨w1.heap.size, 2, none⟩ = some (.slice none 0 0) ∧ w'.cell? ⟨w1.heap.size + 1, 0, none⟩ = some (.int .i64 limit) ∧ w'.cell? ⟨w1.heap.size + 1, 1, none⟩ = some (.slice none 0 0) ∧ w'.cell? ⟨w1.heap.size + 1, 2, none⟩ = some (.slice none 0 0) ∧ w'.cell? ⟨w.heap.size, 0, none⟩ = some (.int .i64 b.limit) ∧ w'.cell? ⟨w.heap.size, 1, none⟩ = some (.slice Av b.mem.length cv) ∧ w'.cell? ⟨w.heap.size, 2, none⟩ = some (.slice Ar b.runs.length cr) ∧ w'.cell? ⟨w2.heap.size, 0, none⟩ = some (.int .i64 b1.limit) ∧ w'.cell? ⟨w2.heap.size, 1, none⟩ = some (.slice Am1 b1.mem.length cm1) ∧ w'.cell? ⟨w2.heap.size, 2, none⟩ = some (.slice Ar1 b1.runs.length cr1) ∧ w'.cell? ⟨w3.heap.size, 0, none⟩ = some (.int .i64 0) ∧ w'.cell? ⟨w3.heap.size, 1, none⟩ = some (.slice none 0 0) ∧ w'.cell? ⟨w3.heap.size, 2, none⟩ = some (.slice none 0 0))
          (exact z)
          (first
            | (go_at_call 10; refine (HBG.out _ hbv).mono ?_; rintro e v5 ⟨rfl, hv5⟩; have hbv := below_trans hbv hv5; have hcv := below_trans hcv hv5; have z : v5.cell? ⟨w1.heap.size, 0, none⟩ = some (.int .i64 limit) ∧ v5.cell? ⟨w1.heap.size, 1, none⟩ = some (.slice none 0 0) ∧ v5.cell? ⟨w1.heap.size, 2, none⟩ = some (.slice none 0 0) ∧ v5.cell? ⟨w1.heap.size + 1, 0, none⟩ = some (.int .i64 limit) ∧ v5.cell? ⟨w1.heap.size + 1, 1, none⟩ = some (.slice none 0 0) ∧ v5.cell? ⟨w1.heap.size + 1, 2, none⟩ = some (.slice none 0 0) ∧ v5.cell? ⟨w.heap.size, 0, none⟩ = some (.int .i64 b.limit) ∧ v5.cell? ⟨w.heap.size, 1, none⟩ = some (.slice Av b.mem.length cv) ∧ v5.cell? ⟨w.heap.size, 2, none⟩ = some (.slice Ar b.runs.length cr) ∧ v5.cell? ⟨w2.heap.size, 0, none⟩ = some (.int .i64 b1.limit) ∧ v5.cell? ⟨w2.heap.size, 1, none⟩ = some (.slice Am1 b1.mem.length cm1) ∧ v5.cell? ⟨w2.heap.size, 2, none⟩ = some (.slice Ar1 b1.runs.length cr1) ∧ v5.cell? ⟨w3.heap.size, 0, none⟩ = some (.int .i64 0) ∧ v5.cell? ⟨w3.heap.size, 1, none⟩ = some (.slice none 0 0) ∧ v5.cell? ⟨w3.heap.size, 2, none⟩ = some (.slice none 0 0) := And.intro ((HQ7.out.below hcv).cell 0 _ rfl) (And.intro ((HQ7.out.below hcv).cell 1 _ rfl) (And.intro ((HQ7.out.below hcv).cell 2 _ rfl) (And.intro ((HQ9.out.below hcv).cell 0 _ rfl) (And.intro ((HQ9.out.below hcv).cell 1 _ rfl) (And.intro ((HQ9.out.below hcv).cell 2 _ rfl) (And.intro ((HQ0.out.below hcv).cell 0 _ rfl) (And.intro ((HQ0.out.below hcv).cell 1 _ rfl) (And.intro ((HQ0.out.below hcv).cell 2 _ rfl) (And.intro ((HQ11.out.below hcv).cell 0 _ rfl) (And.intro ((HQ11.out.below hcv).cell 1 _ rfl) (And.intro ((HQ11.out.below hcv).cell 2 _ rfl) (And.intro ((HQ14.out.below hcv).cell 0 _ rfl) (And.intro ((HQ14.out.below hcv).cell 1 _ rfl) ((HQ14.out.below hcv).cell 2 _ rfl)))))))))))))))
            | (go_at_call 11; with_reducible refine (HSA.out _).mono ?_; rintro e v5 ⟨rfl, hv5⟩; have hbv := below_trans hbv hv5; have hcv := below_trans hcv hv5; have z : v5.cell? ⟨w1.heap.size, 0, none⟩ = some (.int .i64 limit) ∧ v5.cell? ⟨w1.heap.size, 1, none⟩ = some (.slice none 0 0) ∧ v5.cell? ⟨w1.heap.size, 2, none⟩ = some (.slice none 0 0) ∧ v5.cell? ⟨w1.heap.size + 1, 0, none⟩ = some (.int .i64 limit) ∧ v5.cell? ⟨w1.heap.size + 1, 1, none⟩ = some (.slice none 0 0) ∧ v5.cell? ⟨w1.heap.size + 1, 2, none⟩ = some (.slice none 0 0) ∧ v5.cell? ⟨w.heap.size, 0, none⟩ = some (.int .i64 b.limit) ∧ v5.cell? ⟨w.heap.size, 1, none⟩ = some (.slice Av b.mem.length cv) ∧ v5.cell? ⟨w.heap.size, 2, none⟩ = some (.slice Ar b.runs.length cr) ∧ v5.cell? ⟨w2.heap.size, 0, none⟩ = some (.int .i64 b1.limit) ∧ v5.cell? ⟨w2.heap.size, 1, none⟩ = some (.slice Am1 b1.mem.length cm1) ∧ v5.cell? ⟨w2.heap.size, 2, none⟩ = some (.slice Ar1 b1.runs.length cr1) ∧ v5.cell? ⟨w3.heap.size, 0, none⟩ = some (.int .i64 0) ∧ v5.cell? ⟨w3.heap.size, 1, none⟩ = some (.slice none 0 0) ∧ v5.cell? ⟨w3.heap.size, 2, none⟩ = some (.slice none 0 0) := And.intro ((HQ7.out.below hcv).cell 0 _ rfl) (And.intro ((HQ7.out.below hcv).cell 1 _ rfl) (And.intro ((HQ7.out.below hcv).cell 2 _ rfl) (And.intro ((HQ9.out.below hcv).cell 0 _ rfl) (And.intro ((HQ9.out.below hcv).cell 1 _ rfl) (And.intro ((HQ9.out.below hcv).cell 2 _ rfl) (And.intro ((HQ0.out.below hcv).cell 0 _ rfl) (And.intro ((HQ0.out.below hcv).cell 1 _ rfl) (And.intro ((HQ0.out.below hcv).cell 2 _ rfl) (And.intro ((HQ11.out.below hcv).cell 0 _ rfl) (And.intro ((HQ11.out.below hcv).cell 1 _ rfl) (And.intro ((HQ11.out.below hcv).cell 2 _ rfl) (And.intro ((HQ14.out.below hcv).cell 0 _ rfl) (And.intro ((HQ14.out.below hcv).cell 1 _ rfl) ((HQ14.out.below hcv).cell 2 _ rfl)))))))))))))))
            | (go_at_call 11; with_reducible refine (HSB.out _ hcv).mono ?_; rintro e v5 ⟨rfl, hv5⟩; have hbv := below_trans hbv hv5; have hcv := below_trans hcv hv5; have z : v5.cell? ⟨w1.heap.size, 0, none⟩ = some (.int .i64 limit) ∧ v5.cell? ⟨w1.heap.size, 1, none⟩ = some (.slice none 0 0) ∧ v5.cell? ⟨w1.heap.size, 2, none⟩ = some (.slice none 0 0) ∧ v5.cell? ⟨w1.heap.size + 1, 0, none⟩ = some (.int .i64 limit) ∧ v5.cell? ⟨w1.heap.size + 1, 1, none⟩ = some (.slice none 0 0) ∧ v5.cell? ⟨w1.heap.size + 1, 2, none⟩ = some (.slice none 0 0) ∧ v5.cell? ⟨w.heap.size, 0, none⟩ = some (.int .i64 b.limit) ∧ v5.cell? ⟨w.heap.size, 1, none⟩ = some (.slice Av b.mem.length cv) ∧ v5.cell? ⟨w.heap.size, 2, none⟩ = some (.slice Ar b.runs.length cr) ∧ v5.cell? ⟨w2.heap.size, 0, none⟩ = some (.int .i64 b1.limit) ∧ v5.cell? ⟨w2.heap.size, 1, none⟩ = some (.slice Am1 b1.mem.length cm1) ∧ v5.cell? ⟨w2.heap.size, 2, none⟩ = some (.slice Ar1 b1.runs.length cr1) ∧ v5.cell? ⟨w3.heap.size, 0, none⟩ = some (.int .i64 0) ∧ v5.cell? ⟨w3.heap.size, 1, none⟩ = some (.slice none 0 0) ∧ v5.cell? ⟨w3.heap.size, 2, none⟩ = some (.slice none 0 0) := And.intro ((HQ7.out.below hcv).cell 0 _ rfl) (And.intro ((HQ7.out.below hcv).cell 1 _ rfl) (And.intro ((HQ7.out.below hcv).cell 2 _ rfl) (And.intro ((HQ9.out.below hcv).cell 0 _ rfl) (And.intro ((HQ9.out.below hcv).cell 1 _ rfl) (And.intro ((HQ9.out.below hcv).cell 2 _ rfl) (And.intro ((HQ0.out.below hcv).cell 0 _ rfl) (And.intro ((HQ0.out.below hcv).cell 1 _ rfl) (And.intro ((HQ0.out.below hcv).cell 2 _ rfl) (And.intro ((HQ11.out.below hcv).cell 0 _ rfl) (And.intro ((HQ11.out.below hcv).cell 1 _ rfl) (And.intro ((HQ11.out.below hcv).cell 2 _ rfl) (And.intro ((HQ14.out.below hcv).cell 0 _ rfl) (And.intro ((HQ14.out.below hcv).cell 1 _ rfl) ((HQ14.out.below hcv).cell 2 _ rfl)))))))))))))))
            | (go_at_call 12; refine (HCH.out _ hbv).mono ?_; rintro e v5 ⟨rfl, hv5⟩; have hbv := below_trans hbv hv5; have hcv := below_trans hcv hv5; have z : v5.cell? ⟨w1.heap.size, 0, none⟩ = some (.int .i64 limit) ∧ v5.cell? ⟨w1.heap.size, 1, none⟩ = some (.slice none 0 0) ∧ v5.cell? ⟨w1.heap.size, 2, none⟩ = some (.slice none 0 0) ∧ v5.cell? ⟨w1.heap.size + 1, 0, none⟩ = some (.int .i64 limit) ∧ v5.cell? ⟨w1.heap.size + 1, 1, none⟩ = some (.slice none 0 0) ∧ v5.cell? ⟨w1.heap.size + 1, 2, none⟩ = some (.slice none 0 0) ∧ v5.cell? ⟨w.heap.size, 0, none⟩ = some (.int .i64 b.limit) ∧ v5.cell? ⟨w.heap.size, 1, none⟩ = some (.slice Av b.mem.length cv) ∧ v5.cell? ⟨w.heap.size, 2, none⟩ = some (.slice Ar b.runs.length cr) ∧ v5.cell? ⟨w2.heap.size, 0, none⟩ = some (.int .i64 b1.limit) ∧ v5.cell? ⟨w2.heap.size, 1, none⟩ = some (.slice Am1 b1.mem.length cm1) ∧ v5.cell? ⟨w2.heap.size, 2, none⟩ = some (.slice Ar1 b1.runs.length cr1) ∧ v5.cell? ⟨w3.heap.size, 0, none⟩ = some (.int .i64 0) ∧ v5.cell? ⟨w3.heap.size, 1, none⟩ = some (.slice none 0 0) ∧ v5.cell? ⟨w3.heap.size, 2, none⟩ = some (.slice none 0 0) := And.intro ((HQ7.out.below hcv).cell 0 _ rfl) (And.intro ((HQ7.out.below hcv).cell 1 _ rfl) (And.intro ((HQ7.out.below hcv).cell 2 _ rfl) (And.intro ((HQ9.out.below hcv).cell 0 _ rfl) (And.intro ((HQ9.out.below hcv).cell 1 _ rfl) (And.intro ((HQ9.out.below hcv).cell 2 _ rfl) (And.intro ((HQ0.out.below hcv).cell 0 _ rfl) (And.intro ((HQ0.out.below hcv).cell 1 _ rfl) (And.intro ((HQ0.out.below hcv).cell 2 _ rfl) (And.intro ((HQ11.out.below hcv).cell 0 _ rfl) (And.intro ((HQ11.out.below hcv).cell 1 _ rfl) (And.intro ((HQ11.out.below hcv).cell 2 _ rfl) (And.intro ((HQ14.out.below hcv).cell 0 _ rfl) (And.intro ((HQ14.out.below hcv).cell 1 _ rfl) ((HQ14.out.below hcv).cell 2 _ rfl)))))))))))))))
            | (go_at_call 7; refine (HRC.out _ hbv).mono ?_; rintro e v5 ⟨rfl, hv5⟩; have hbv := below_trans hbv hv5; have hcv := below_trans hcv hv5; have z : v5.cell? ⟨w1.heap.size, 0, none⟩ = some (.int .i64 limit) ∧ v5.cell? ⟨w1.heap.size, 1, none⟩ = some (.slice none 0 0) ∧ v5.cell? ⟨w1.heap.size, 2, none⟩ = some (.slice none 0 0) ∧ v5.cell? ⟨w1.heap.size + 1, 0, none⟩ = some (.int .i64 limit) ∧ v5.cell? ⟨w1.heap.size + 1, 1, none⟩ = some (.slice none 0 0) ∧ v5.cell? ⟨w1.heap.size + 1, 2, none⟩ = some (.slice none 0 0) ∧ v5.cell? ⟨w.heap.size, 0, none⟩ = some (.int .i64 b.limit) ∧ v5.cell? ⟨w.heap.size, 1, none⟩ = some (.slice Av b.mem.length cv) ∧ v5.cell? ⟨w.heap.size, 2, none⟩ = some (.slice Ar b.runs.length cr) ∧ v5.cell? ⟨w2.heap.size, 0, none⟩ = some (.int .i64 b1.limit) ∧ v5.cell? ⟨w2.heap.size, 1, none⟩ = some (.slice Am1 b1.mem.length cm1) ∧ v5.cell? ⟨w2.heap.size, 2, none⟩ = some (.slice Ar1 b1.runs.length cr1) ∧ v5.cell? ⟨w3.heap.size, 0, none⟩ = some (.int .i64 0) ∧ v5.cell? ⟨w3.heap.size, 1, none⟩ = some (.slice none 0 0) ∧ v5.cell? ⟨w3.heap.size, 2, none⟩ = some (.slice none 0 0) := And.intro ((HQ7.out.below hcv).cell 0 _ rfl) (And.intro ((HQ7.out.below hcv).cell 1 _ rfl) (And.intro ((HQ7.out.below hcv).cell 2 _ rfl) (And.intro ((HQ9.out.below hcv).cell 0 _ rfl) (And.intro ((HQ9.out.below hcv).cell 1 _ rfl) (And.intro ((HQ9.out.below hcv).cell 2 _ rfl) (And.intro ((HQ0.out.below hcv).cell 0 _ rfl) (And.intro ((HQ0.out.below hcv).cell 1 _ rfl) (And.intro ((HQ0.out.below hcv).cell 2 _ rfl) (And.intro ((HQ11.out.below hcv).cell 0 _ rfl) (And.intro ((HQ11.out.below hcv).cell 1 _ rfl) (And.intro ((HQ11.out.below hcv).cell 2 _ rfl) (And.intro ((HQ14.out.below hcv).cell 0 _ rfl) (And.intro ((HQ14.out.below hcv).cell 1 _ rfl) ((HQ14.out.below hcv).cell 2 _ rfl))))))))))))))))
        all_goals
          clear z
          go_wp2
          go_ret
          exact ⟨rfl, hbv⟩
    · rw [newB_no (by rw [hi]; simp; omega)]
      have hbA := below_trans (below_trans hbw1 (below_alloc w1 (.cells #[.int .i64 0, .slice none 0 0, .slice none 0 0] 25))) (below_alloc _ (.cells #[.int .i64 0, .slice none 0 0, .slice none 0 0] 25))
      have k0 := (HA0.out.alloc (.cells #[.int .i64 0, .slice none 0 0, .slice none 0 0] 25)).alloc (.cells #[.int .i64 0, .slice none 0 0, .slice none 0 0] 25)
      have k1 := (HA1.out.alloc (.cells #[.int .i64 0, .slice none 0 0, .slice none 0 0] 25)).alloc (.cells #[.int .i64 0, .slice none 0 0, .slice none 0 0] 25)
      have k7 := (Blk.new w1 25 #[.int .i64 0, .slice none 0 0, .slice none 0 0]).alloc (.cells #[.int .i64 0, .slice none 0 0, .slice none 0 0] 25)
      have k9 := Blk.new (w1.alloc (.cells #[.int .i64 0, .slice none 0 0, .slice none 0 0] 25)) 25 #[.int .i64 0, .slice none 0 0, .slice none 0 0]
      simp only [World.size_alloc] at k9
      have j0 := k0
      have j1 := k1
      have j7 := k7
      have hbZ := hbA
      have J9 : Blk ((w1.alloc (.cells #[.int .i64 0, .slice none 0 0, .slice none 0 0] 25)).alloc (.cells #[.int .i64 0, .slice none 0 0, .slice none 0 0] 25)) (w1.heap.size + 1) 25 #[.int .i64 0, .slice none 0 0, .slice none 0 0] := k9
      have y0 := j0.cell 0 _ rfl
      have y1 := j0.cell 1 _ rfl
      have y2 := j0.cell 2 _ rfl
      have x0 := j1.cell 0 _ rfl
      have x1 := j1.cell 1 _ rfl
      have x2 := j1.cell 2 _ rfl
      have x3 := j1.cell 3 _ rfl
      have x4 := j1.cell 4 _ rfl
      have HJ0 := Lib.hid j0
      have HJ1 := Lib.hid j1
      have HJ7 := Lib.hid j7
      have HJ9 := Lib.hid J9
      clear k0 k1 k7 k9 j0 j1 j7 J9 hbA HA0 HA1
      go_wp2_with fail
      refine (HPU.out _ hbZ).mono ?_
      rintro e w2 ⟨b1, rfl, hob1, hbu1, hb2⟩
      obtain ⟨Am1, cm1, hvm1, -⟩ := id hob1.ok.mem.sl
      obtain ⟨Ar1, cr1, hvr1, -⟩ := id hob1.ok.sl
      rw [hvm1, hvr1]
      have hbw2 := below_trans (below_trans hbZ hb2) (below_alloc w2 (.cells #[.int .i64 b1.limit, .slice Am1 b1.mem.length cm1, .slice Ar1 b1.runs.length cr1] 25))
      have HL0 := Lib.hid ((HJ0.out.below hb2).alloc (.cells #[.int .i64 b1.limit, .slice Am1 b1.mem.length cm1, .slice Ar1 b1.runs.length cr1] 25))
      have HL1 := Lib.hid ((HJ1.out.below hb2).alloc (.cells #[.int .i64 b1.limit, .slice Am1 b1.mem.length cm1, .slice Ar1 b1.runs.length cr1] 25))
      have HL7 := Lib.hid ((HJ7.out.below hb2).alloc (.cells #[.int .i64 b1.limit, .slice Am1 b1.mem.length cm1, .slice Ar1 b1.runs.length cr1] 25))
      have HL9 := Lib.hid ((HJ9.out.below hb2).alloc (.cells #[.int .i64 b1.limit, .slice Am1 b1.mem.length cm1, .slice Ar1 b1.runs.length cr1] 25))
      have HL11 := Lib.hid (Blk.new w2 25 #[.int .i64 b1.limit, .slice Am1 b1.mem.length cm1, .slice Ar1 b1.runs.length cr1])
      have HO1 := Lib.hid (hob1.below (below_alloc w2 (.cells #[.int .i64 b1.limit, .slice Am1 b1.mem.length cm1, .slice Ar1 b1.runs.length cr1] 25)))
      have HOFF := Lib.hid (fun (o : Nat) (h : w2.heap.size ≤ o) => hob1.off h)
      have HBU1 := Lib.hid hbu1
      have HV1 := Lib.hid hvm1
      have HV2 := Lib.hid hvr1
      have HCX := Lib.hid (HRC.out _ hbw2)
      clear y0 y1 y2 x0 x1 x2 x3 x4 hob1 hvm1 hvr1 hbu1 hb2 HJ0 HJ1 HJ7 HJ9
      have y0 := HL0.out.cell 0 _ rfl
      have y1 := HL0.out.cell 1 _ rfl
      have y2 := HL0.out.cell 2 _ rfl
      go_wp2_with fail
      refine HCX.out.mono ?_
      rintro e w3 ⟨rfl, hb3⟩
      have hbw3 := below_trans hbw2 hb3
      have HM0 := Lib.hid (HL0.out.below hb3)
      have HM1 := Lib.hid (HL1.out.below hb3)
      have HM7 := Lib.hid (HL7.out.below hb3)
      have HM9 := Lib.hid (HL9.out.below hb3)
      have HM11 := Lib.hid (HL11.out.below hb3)
      have HO2 := Lib.hid (HO1.out.below hb3)
      clear y0 y1 y2 HL0 HL1 HL7 HL9 HL11 HO1 hb3 HCX hbw2
      by_cases hz : ck = 0
      · have HG := Lib.hid (HGD.out.1 hz)
        have HR2 := Lib.hid (HR.out.trans (if_neg (fun h => h hz)))
        subst hz
        have y0 := HM0.out.cell 0 _ rfl
        have y1 := HM0.out.cell 1 _ rfl
        have y2 := HM0.out.cell 2 _ rfl
        have x0 := HM1.out.cell 0 _ rfl
        have x1 := HM1.out.cell 1 _ rfl
        have x2 := HM1.out.cell 2 _ rfl
        have x3 := HM1.out.cell 3 _ rfl
        have x4 := HM1.out.cell 4 _ rfl
        have HPX := Lib.hid (HPE.out HG.out _ hbw3)
        go_wp2_with fail
        refine HPX.out.mono ?_
        rintro e w4 ⟨rfl, hb4⟩
        have hbw4 := below_trans hbw3 hb4
        have HN0 := Lib.hid (HM0.out.below hb4)
        have HN1 := Lib.hid (HM1.out.below hb4)
        have HN7 := Lib.hid (HM7.out.below hb4)
        have HN9 := Lib.hid (HM9.out.below hb4)
        have HN11 := Lib.hid (HM11.out.below hb4)
        have HO3 := Lib.hid (HO2.out.below hb4)
        clear y0 y1 y2 x0 x1 x2 x3 x4 HM0 HM1 HM7 HM9 HM11 HO2 hb4 HPX hbw3
        by_cases hp : pe = 0
        · have HNI := Lib.hid (HPZ.out hp)
          have HR3 := Lib.hid (HR2.out.trans (if_neg (fun h => h hp)))
          subst hp
          have l0 := HN0.out.lt
          have l7 := HN7.out.lt
          have l9 := HN9.out.lt
          have l11 := HN11.out.lt
          have hbw5 := below_trans hbw4 (below_alloc w4 (.cells #[.int .i64 0, .slice none 0 0, .slice none 0 0] 25))
          have HP0 := Lib.hid (HN0.out.alloc (.cells #[.int .i64 0, .slice none 0 0, .slice none 0 0] 25))
          have HP1 := Lib.hid (HN1.out.alloc (.cells #[.int .i64 0, .slice none 0 0, .slice none 0 0] 25))
          have HP7 := Lib.hid (HN7.out.alloc (.cells #[.int .i64 0, .slice none 0 0, .slice none 0 0] 25))
          have HP9 := Lib.hid (HN9.out.alloc (.cells #[.int .i64 0, .slice none 0 0, .slice none 0 0] 25))
          have HP11 := Lib.hid (HN11.out.alloc (.cells #[.int .i64 0, .slice none 0 0, .slice none 0 0] 25))
          have HP14 := Lib.hid (Blk.new w4 25 #[.int .i64 0, .slice none 0 0, .slice none 0 0])
          have HO4 := Lib.hid (HO3.out.below (below_alloc w4 (.cells #[.int .i64 0, .slice none 0 0, .slice none 0 0] 25)))
          have HF1 := Lib.hid (HOFF.out _ (Nat.le_of_lt l11))
          have y0 := HP0.out.cell 0 _ rfl
          have y1 := HP0.out.cell 1 _ rfl
          have y2 := HP0.out.cell 2 _ rfl
          have x0 := HP1.out.cell 0 _ rfl
          have x1 := HP1.out.cell 1 _ rfl
          have x2 := HP1.out.cell 2 _ rfl
          have x3 := HP1.out.cell 3 _ rfl
          have x4 := HP1.out.cell 4 _ rfl
          have HIN := Lib.hid (HPI.out HG.out HNI.out _ hbw5)
          clear HN0 HN1 HN7 HN9 HN11 HO3 hbw4
          go_wp2_with fail
          refine HIN.out.mono ?_
          rintro e w6 ⟨b2, rfl, hob2, hbu2, hb6⟩
          obtain ⟨Am2, cm2, hvm2, -⟩ := id hob2.ok.mem.sl
          obtain ⟨Ar2, cr2, hvr2, -⟩ := id hob2.ok.sl
          rw [hvm2, hvr2]
          have K14 := HP14.out.below hb6
          have c0 := K14.cell 0 _ rfl
          have c1 := K14.cell 1 _ rfl
          have c2 := K14.cell 2 _ rfl
          have g0 := K14.free 0
          have g1 := K14.free 1
          have g2 := K14.free 2
          have HQ0 := Lib.hid ((((HP0.out.below hb6).far (p := ⟨w4.heap.size, 0, none⟩) (by show w.heap.size ≠ w4.heap.size; omega) (.int .i64 b2.limit)).far (p := ⟨w4.heap.size, 1, none⟩) (by show w.heap.size ≠ w4.heap.size; omega) (.slice Am2 b2.mem.length cm2)).far (p := ⟨w4.heap.size, 2, none⟩) (by show w.heap.size ≠ w4.heap.size; omega) (.slice Ar2 b2.runs.length cr2))
          have HQ7 := Lib.hid ((((HP7.out.below hb6).far (p := ⟨w4.heap.size, 0, none⟩) (by show w1.heap.size ≠ w4.heap.size; omega) (.int .i64 b2.limit)).far (p := ⟨w4.heap.size, 1, none⟩) (by show w1.heap.size ≠ w4.heap.size; omega) (.slice Am2 b2.mem.length cm2)).far (p := ⟨w4.heap.size, 2, none⟩) (by show w1.heap.size ≠ w4.heap.size; omega) (.slice Ar2 b2.runs.length cr2))
          have HQ9 := Lib.hid ((((HP9.out.below hb6).far (p := ⟨w4.heap.size, 0, none⟩) (by show w1.heap.size + 1 ≠ w4.heap.size; omega) (.int .i64 b2.limit)).far (p := ⟨w4.heap.size, 1, none⟩) (by show w1.heap.size + 1 ≠ w4.heap.size; omega) (.slice Am2 b2.mem.length cm2)).far (p := ⟨w4.heap.size, 2, none⟩) (by show w1.heap.size + 1 ≠ w4.heap.size; omega) (.slice Ar2 b2.runs.length cr2))
          have HQ11 := Lib.hid ((((HP11.out.below hb6).far (p := ⟨w4.heap.size, 0, none⟩) (by show w2.heap.size ≠ w4.heap.size; omega) (.int .i64 b2.limit)).far (p := ⟨w4.heap.size, 1, none⟩) (by show w2.heap.size ≠ w4.heap.size; omega) (.slice Am2 b2.mem.length cm2)).far (p := ⟨w4.heap.size, 2, none⟩) (by show w2.heap.size ≠ w4.heap.size; omega) (.slice Ar2 b2.runs.length cr2))
          have HQ14 := Lib.hid (((K14.set_ 0 (.int .i64 b2.limit)).set_ 1 (.slice Am2 b2.mem.length cm2)).set_ 2 (.slice Ar2 b2.runs.length cr2))
          have hq : ∀ i, w.heap.size ≤ (⟨w4.heap.size, i, none⟩ : Addr).block := fun i => by show w.heap.size ≤ w4.heap.size; omega
          have hpp : ∀ i, (⟨w4.heap.size, i, none⟩ : Addr).block < (w4.alloc (.cells #[.int .i64 0, .slice none 0 0, .slice none 0 0] 25)).heap.size := fun i => by simp
          have hbW := (((below_trans hbw5 hb6).setCell (hq 0) (.int .i64 b2.limit)).setCell (hq 1) (.slice Am2 b2.mem.length cm2)).setCell (hq 2) (.slice Ar2 b2.runs.length cr2)
          have HW2 := Lib.hid (((hob2.setFar (hpp 0) (.int .i64 b2.limit)).setFar (hpp 1) (.slice Am2 b2.mem.length cm2)).setFar (hpp 2) (.slice Ar2 b2.runs.length cr2)).ok
          have HW1 := Lib.hid ((((HO4.out.below hb6).setOff (p := ⟨w4.heap.size, 0, none⟩) HF1.out (.int .i64 b2.limit)).setOff (p := ⟨w4.heap.size, 1, none⟩) HF1.out (.slice Am2 b2.mem.length cm2)).setOff (p := ⟨w4.heap.size, 2, none⟩) HF1.out (.slice Ar2 b2.runs.length cr2)).ok
          have HEQ : Hid (b1.bu = b2.bu) := Lib.hid (by rw [HBU1.out, HR3.out, hbu2])
          have HRC2 : Hid (R.2 = 0) := Lib.hid (by rw [HR3.out])
          rw [HRC2.out]
          have hVM2 := Lib.hid hvm2
          have hVR2 := Lib.hid hvr2
          clear y0 y1 y2 x0 x1 x2 x3 x4 hob2 hvm2 hvr2 hbu2 hq hpp K14 hb6 HP0 HP1 HP7 HP9 HP11 HP14 HO4 hbw5 HIN
          go_wp2_with fail
          have HVM2 := hVM2
          have HVR2 := hVR2
          obtain ⟨WW, hWW⟩ : ∃ WW, ((w6.setCell ⟨w4.heap.size, 0, none⟩ (.int .i64 b2.limit)).setCell ⟨w4.heap.size, 1, none⟩ (.slice Am2 b2.mem.length cm2)).setCell ⟨w4.heap.size, 2, none⟩ (.slice Ar2 b2.runs.length cr2) = WW := ⟨_, rfl⟩
          rw [hWW] at HQ0 HQ7 HQ9 HQ11 HQ14 hbW HW1 HW2 ⊢
          clear hWW
          have HSA := Lib.hid (fun v => sameBuffers_any (oB 0) (oB 0) v (oB_ok _ _) (oB_ok _ _) rfl)
          unfold Buf.agg' oB at HSA
          dsimp only at HSA
          have HSB := Lib.hid (fun v (h : Below WW.heap.size WW v) => sameBuffers_any b1 b2 v (HW1.out.below h) (HW2.out.below h) HEQ.out)
          unfold Buf.agg' at HSB
          rw [HV1.out, HV2.out, HVM2.out, HVR2.out] at HSB
          have hbv := hbW.drew
          have hcv : Below WW.heap.size WW WW.drew := (Below.refl _ _).drew
          have z : WW.drew.cell? ⟨w1.heap.size, 0, none⟩ = some (.int .i64 0) ∧ WW.drew.cell? ⟨w1.heap.size, 1, none⟩ = some (.slice none 0 0) ∧ WW.drew.cell? ⟨w1.heap.size, 2, none⟩ = some (.slice none 0 0) ∧ WW.drew.cell? ⟨w1.heap.size + 1, 0, none⟩ = some (.int .i64 0) ∧ WW.drew.cell? ⟨w1.heap.size + 1, 1, none⟩ = some (.slice none 0 0) ∧ WW.drew.cell? ⟨w1.heap.size + 1, 2, none⟩ = some (.slice none 0 0) ∧ WW.drew.cell? ⟨w.heap.size, 0, none⟩ = some (.int .i64 b.limit) ∧ WW.drew.cell? ⟨w.heap.size, 1, none⟩ = some (.slice Av b.mem.length cv) ∧ WW.drew.cell? ⟨w.heap.size, 2, none⟩ = some (.slice Ar b.runs.length cr) ∧ WW.drew.cell? ⟨w2.heap.size, 0, none⟩ = some (.int .i64 b1.limit) ∧ WW.drew.cell? ⟨w2.heap.size, 1, none⟩ = some (.slice Am1 b1.mem.length cm1) ∧ WW.drew.cell? ⟨w2.heap.size, 2, none⟩ = some (.slice Ar1 b1.runs.length cr1) ∧ WW.drew.cell? ⟨w4.heap.size, 0, none⟩ = some (.int .i64 b2.limit) ∧ WW.drew.cell? ⟨w4.heap.size, 1, none⟩ = some (.slice Am2 b2.mem.length cm2) ∧ WW.drew.cell? ⟨w4.heap.size, 2, none⟩ = some (.slice Ar2 b2.runs.length cr2) := And.intro (HQ7.out.cell 0 _ rfl) (And.intro (HQ7.out.cell 1 _ rfl) (And.intro (HQ7.out.cell 2 _ rfl) (And.intro (HQ9.out.cell 0 _ rfl) (And.intro (HQ9.out.cell 1 _ rfl) (And.intro (HQ9.out.cell 2 _ rfl) (And.intro (HQ0.out.cell 0 _ rfl) (And.intro (HQ0.out.cell 1 _ rfl) (And.intro (HQ0.out.cell 2 _ rfl) (And.intro (HQ11.out.cell 0 _ rfl) (And.intro (HQ11.out.cell 1 _ rfl) (And.intro (HQ11.out.cell 2 _ rfl) (And.intro (HQ14.out.cell 0 _ rfl) (And.intro (HQ14.out.cell 1 _ rfl) (HQ14.out.cell 2 _ rfl))))))))))))))
          go_region_held3 (fun w' => w'.cell? ⟨w1.heap.size, 0, none⟩ = some (.int .i64 0) ∧ w'.cell? ⟨w1.heap.size, 1, none⟩ = some (.slice none 0 0) ∧ w'.cell? ⟨w1.heap.size, 2, none⟩ = some (.slice none 0 0) ∧ w'.cell? ⟨w1.heap.size + 1, 0, none⟩ = some (.int .i64 0) ∧ w'.cell? ⟨w1.heap.size + 1, 1, none⟩ = some (.slice none 0 0) ∧ w'.cell? ⟨w1.heap.size + 1, 2, none⟩ = some (.slice none 0 0) ∧ w'.cell? ⟨w.heap.size, 0, none⟩ = some (.int .i64 b.limit) ∧ w'.cell? ⟨w.heap.size, 1, none⟩ = some (.slice Av b.mem.length cv) ∧ w'.cell? ⟨w.heap.size, 2, none⟩ = some (.slice Ar b.runs.length cr) ∧ w'.cell? ⟨w2.heap.size, 0, none⟩ = some (.int .i64 b1.limit) ∧ w'.cell? ⟨w2.heap.size, 1, none⟩ = some (.slice Am1 b1.mem.length cm1) ∧ w'.cell? ⟨w2.heap.size, 2, none⟩ = some (.slice Ar1 b1.runs.length cr1) ∧ w'.cell? ⟨w4.heap.size, 0, none⟩ = some (.int .i64 b2.limit) ∧ w'.cell? ⟨w4.heap.size, 1, none⟩ = some (.slice Am2 b2.mem.length cm2) ∧ w'.cell? ⟨w4.heap.size, 2, none⟩ = some (.slice Ar2 b2.runs.length cr2))
            (exact z)
            (first
              | (go_at_call 10; refine (HBG.out _ hbv).mono ?_; rintro e v5 ⟨rfl, hv5⟩; have hbv := below_trans hbv hv5; have hcv := below_trans hcv hv5; have z : v5.cell? ⟨w1.heap.size, 0, none⟩ = some (.int .i64 0) ∧ v5.cell? ⟨w1.heap.size, 1, none⟩ = some (.slice none 0 0) ∧ v5.cell? ⟨w1.heap.size, 2, none⟩ = some (.slice none 0 0) ∧ v5.cell? ⟨w1.heap.size + 1, 0, none⟩ = some (.int .i64 0) ∧ v5.cell? ⟨w1.heap.size + 1, 1, none⟩ = some (.slice none 0 0) ∧ v5.cell? ⟨w1.heap.size + 1, 2, none⟩ = some (.slice none 0 0) ∧ v5.cell? ⟨w.heap.size, 0, none⟩ = some (.int .i64 b.limit) ∧ v5.cell? ⟨w.heap.size, 1, none⟩ = some (.slice Av b.mem.length cv) ∧ v5.cell? ⟨w.heap.size, 2, none⟩ = some (.slice Ar b.runs.length cr) ∧ v5.cell? ⟨w2.heap.size, 0, none⟩ = some (.int .i64 b1.limit) ∧ v5.cell? ⟨w2.heap.size, 1, none⟩ = some (.slice Am1 b1.mem.length cm1) ∧ v5.cell? ⟨w2.heap.size, 2, none⟩ = some (.slice Ar1 b1.runs.length cr1) ∧ v5.cell? ⟨w4.heap.size, 0, none⟩ = some (.int .i64 b2.limit) ∧ v5.cell? ⟨w4.heap.size, 1, none⟩ = some (.slice Am2 b2.mem.length cm2) ∧ v5.cell? ⟨w4.heap.size, 2, none⟩ = some (.slice Ar2 b2.runs.length cr2) := And.intro ((HQ7.out.below hcv).cell 0 _ rfl) (And.intro ((HQ7.out.below hcv).cell 1 _ rfl) (And.intro ((HQ7.out.below hcv).cell 2 _ rfl) (And.intro ((HQ9.out.below hcv).cell 0 _ rfl) (And.intro ((HQ9.out.below hcv).cell 1 _ rfl) (And.intro ((HQ9.out.below hcv).cell 2 _ rfl) (And.intro ((HQ0.out.below hcv).cell 0 _ rfl) (And.intro ((HQ0.out.below hcv).cell 1 _ rfl) (And.intro ((HQ0.out.below hcv).cell 2 _ rfl) (And.intro ((HQ11.out.below hcv).cell 0 _ rfl) (And.intro ((HQ11.out.below hcv).cell 1 _ rfl) (And.intro ((HQ11.out.below hcv).cell 2 _ rfl) (And.intro ((HQ14.out.below hcv).cell 0 _ rfl) (And.intro ((HQ14.out.below hcv).cell 1 _ rfl) ((HQ14.out.below hcv).cell 2 _ rfl)))))))))))))))
              | (go_at_call 11; with_reducible refine (HSA.out _).mono ?_; rintro e v5 ⟨rfl, hv5⟩; have hbv := below_trans hbv hv5; have hcv := below_trans hcv hv5; have z : v5.cell? ⟨w1.heap.size, 0, none⟩ = some (.int .i64 0) ∧ v5.cell? ⟨w1.heap.size, 1, none⟩ = some (.slice none 0 0) ∧ v5.cell? ⟨w1.heap.size, 2, none⟩ = some (.slice none 0 0) ∧ v5.cell? ⟨w1.heap.size + 1, 0, none⟩ = some (.int .i64 0) ∧ v5.cell? ⟨w1.heap.size + 1, 1, none⟩ = some (.slice none 0 0) ∧ v5.cell? ⟨w1.heap.size + 1, 2, none⟩ = some (.slice none 0 0) ∧ v5.cell? ⟨w.heap.size, 0, none⟩ = some (.int .i64 b.limit) ∧ v5.cell? ⟨w.heap.size, 1, none⟩ = some (.slice Av b.mem.length cv) ∧ v5.cell? ⟨w.heap.size, 2, none⟩ = some (.slice Ar b.runs.length cr) ∧ v5.cell? ⟨w2.heap.size, 0, none⟩ = some (.int .i64 b1.limit) ∧ v5.cell? ⟨w2.heap.size, 1, none⟩ = some (.slice Am1 b1.mem.length cm1) ∧ v5.cell? ⟨w2.heap.size, 2, none⟩ = some (.slice Ar1 b1.runs.length cr1) ∧ v5.cell? ⟨w4.heap.size, 0, none⟩ = some (.int .i64 b2.limit) ∧ v5.cell? ⟨w4.heap.size, 1, none⟩ = some (.slice Am2 b2.mem.length cm2) ∧ v5.cell? ⟨w4.heap.size, 2, none⟩ = some (.slice Ar2 b2.runs.length cr2) := And.intro ((HQ7.out.below hcv).cell 0 _ rfl) (And.intro ((HQ7.out.below hcv).cell 1 _ rfl) (And.intro ((HQ7.out.below hcv).cell 2 _ rfl) (And.intro ((HQ9.out.below hcv).cell 0 _ rfl) (And.intro ((HQ9.out.below hcv).cell 1 _ rfl) (And.intro ((HQ9.out.below hcv).cell 2 _ rfl) (And.intro ((HQ0.out.below hcv).cell 0 _ rfl) (And.intro ((HQ0.out.below hcv).cell 1 _ rfl) (And.intro ((HQ0.out.below hcv).cell 2 _ rfl) (And.intro ((HQ11.out.below hcv).cell 0 _ rfl) (And.intro ((HQ11.out.below hcv).cell 1 _ rfl) (And.intro ((HQ11.out.below hcv).cell 2 _ rfl) (And.intro ((HQ14.out.below hcv).cell 0 _ rfl) (And.intro ((HQ14.out.below hcv).cell 1 _ rfl) ((HQ14.out.below hcv).cell 2 _ rfl)))))))))))))))
              | (go_at_call 11; with_reducible refine (HSB.out _ hcv).mono ?_; rintro e v5 ⟨rfl, hv5⟩; have hbv := below_trans hbv hv5; have hcv := below_trans hcv hv5; have z : v5.cell? ⟨w1.heap.size, 0, none⟩ = some (.int .i64 0) ∧ v5.cell? ⟨w1.heap.size, 1, none⟩ = some (.slice none 0 0) ∧ v5.cell? ⟨w1.heap.size, 2, none⟩ = some (.slice none 0 0) ∧ v5.cell? ⟨w1.heap.size + 1, 0, none⟩ = some (.int .i64 0) ∧ v5.cell? ⟨w1.heap.size + 1, 1, none⟩ = some (.slice none 0 0) ∧ v5.cell? ⟨w1.heap.size + 1, 2, none⟩ = some (.slice none 0 0) ∧ v5.cell? ⟨w.heap.size, 0, none⟩ = some (.int .i64 b.limit) ∧ v5.cell? ⟨w.heap.size, 1, none⟩ = some (.slice Av b.mem.length cv) ∧ v5.cell? ⟨w.heap.size, 2, none⟩ = some (.slice Ar b.runs.length cr) ∧ v5.cell? ⟨w2.heap.size, 0, none⟩ = some (.int .i64 b1.limit) ∧ v5.cell? ⟨w2.heap.size, 1, none⟩ = some (.slice Am1 b1.mem.length cm1) ∧ v5.cell? ⟨w2.heap.size, 2, none⟩ = some (.slice Ar1 b1.runs.length cr1) ∧ v5.cell? ⟨w4.heap.size, 0, none⟩ = some (.int .i64 b2.limit) ∧ v5.cell? ⟨w4.heap.size, 1, none⟩ = some (.slice Am2 b2.mem.length cm2) ∧ v5.cell? ⟨w4.heap.size, 2, none⟩ = some (.slice Ar2 b2.runs.length cr2) := And.intro ((HQ7.out.below hcv).cell 0 _ rfl) (And.intro ((HQ7.out.below hcv).cell 1 _ rfl) (And.intro ((HQ7.out.below hcv).cell 2 _ rfl) (And.intro ((HQ9.out.below hcv).cell 0 _ rfl) (And.intro ((HQ9.out.below hcv).cell 1 _ rfl) (And.intro ((HQ9.out.below hcv).cell 2 _ rfl) (And.intro ((HQ0.out.below hcv).cell 0 _ rfl) (And.intro ((HQ0.out.below hcv).cell 1 _ rfl) (And.intro ((HQ0.out.below hcv).cell 2 _ rfl) (And.intro ((HQ11.out.below hcv).cell 0 _ rfl) (And.intro ((HQ11.out.below hcv).cell 1 _ rfl) (And.intro ((HQ11.out.below hcv).cell 2 _ rfl) (And.intro ((HQ14.out.below hcv).cell 0 _ rfl) (And.intro ((HQ14.out.below hcv).cell 1 _ rfl) ((HQ14.out.below hcv).cell 2 _ rfl)))))))))))))))
              | (go_at_call 12; refine (HCH.out _ hbv).mono ?_; rintro e v5 ⟨rfl, hv5⟩; have hbv := below_trans hbv hv5; have hcv := below_trans hcv hv5; have z : v5.cell? ⟨w1.heap.size, 0, none⟩ = some (.int .i64 0) ∧ v5.cell? ⟨w1.heap.size, 1, none⟩ = some (.slice none 0 0) ∧ v5.cell? ⟨w1.heap.size, 2, none⟩ = some (.slice none 0 0) ∧ v5.cell? ⟨w1.heap.size + 1, 0, none⟩ = some (.int .i64 0) ∧ v5.cell? ⟨w1.heap.size + 1, 1, none⟩ = some (.slice none 0 0) ∧ v5.cell? ⟨w1.heap.size + 1, 2, none⟩ = some (.slice none 0 0) ∧ v5.cell? ⟨w.heap.size, 0, none⟩ = some (.int .i64 b.limit) ∧ v5.cell? ⟨w.heap.size, 1, none⟩ = some (.slice Av b.mem.length cv) ∧ v5.cell? ⟨w.heap.size, 2, none⟩ = some (.slice Ar b.runs.length cr) ∧ v5.cell? ⟨w2.heap.size, 0, none⟩ = some (.int .i64 b1.limit) ∧ v5.cell? ⟨w2.heap.size, 1, none⟩ = some (.slice Am1 b1.mem.length cm1) ∧ v5.cell? ⟨w2.heap.size, 2, none⟩ = some (.slice Ar1 b1.runs.length cr1) ∧ v5.cell? ⟨w4.heap.size, 0, none⟩ = some (.int .i64 b2.limit) ∧ v5.cell? ⟨w4.heap.size, 1, none⟩ = some (.slice Am2 b2.mem.length cm2) ∧ v5.cell? ⟨w4.heap.size, 2, none⟩ = some (.slice Ar2 b2.runs.length cr2) := And.intro ((HQ7.out.below hcv).cell 0 _ rfl) (And.intro ((HQ7.out.below hcv).cell 1 _ rfl) (And.intro ((HQ7.out.below hcv).cell 2 _ rfl) (And.intro ((HQ9.out.below hcv).cell 0 _ rfl) (And.intro ((HQ9.out.below hcv).cell 1 _ rfl) (And.intro ((HQ9.out.below hcv).cell 2 _ rfl) (And.intro ((HQ0.out.below hcv).cell 0 _ rfl) (And.intro ((HQ0.out.below hcv).cell 1 _ rfl) (And.intro ((HQ0.out.below hcv).cell 2 _ rfl) (And.intro ((HQ11.out.below hcv).cell 0 _ rfl) (And.intro ((HQ11.out.below hcv).cell 1 _ rfl) (And.intro ((HQ11.out.below hcv).cell 2 _ rfl) (And.intro ((HQ14.out.below hcv).cell 0 _ rfl) (And.intro ((HQ14.out.below hcv).cell 1 _ rfl) ((HQ14.out.below hcv).cell 2 _ rfl)))))))))))))))
              | (go_at_call 7; refine (HRC.out _ hbv).mono ?_; rintro e v5 ⟨rfl, hv5⟩; have hbv := below_trans hbv hv5; have hcv := below_trans hcv hv5; have z : v5.cell? ⟨w1.heap.size, 0, none⟩ = some (.int .i64 0) ∧ v5.cell? ⟨w1.heap.size, 1, none⟩ = some (.slice none 0 0) ∧ v5.cell? ⟨w1.heap.size, 2, none⟩ = some (.slice none 0 0) ∧ v5.cell? ⟨w1.heap.size + 1, 0, none⟩ = some (.int .i64 0) ∧ v5.cell? ⟨w1.heap.size + 1, 1, none⟩ = some (.slice none 0 0) ∧ v5.cell? ⟨w1.heap.size + 1, 2, none⟩ = some (.slice none 0 0) ∧ v5.cell? ⟨w.heap.size, 0, none⟩ = some (.int .i64 b.limit) ∧ v5.cell? ⟨w.heap.size, 1, none⟩ = some (.slice Av b.mem.length cv) ∧ v5.cell? ⟨w.heap.size, 2, none⟩ = some (.slice Ar b.runs.length cr) ∧ v5.cell? ⟨w2.heap.size, 0, none⟩ = some (.int .i64 b1.limit) ∧ v5.cell? ⟨w2.heap.size, 1, none⟩ = some (.slice Am1 b1.mem.length cm1) ∧ v5.cell? ⟨w2.heap.size, 2, none⟩ = some (.slice Ar1 b1.runs.length cr1) ∧ v5.cell? ⟨w4.heap.size, 0, none⟩ = some (.int .i64 b2.limit) ∧ v5.cell? ⟨w4.heap.size, 1, none⟩ = some (.slice Am2 b2.mem.length cm2) ∧ v5.cell? ⟨w4.heap.size, 2, none⟩ = some (.slice Ar2 b2.runs.length cr2) := And.intro ((HQ7.out.below hcv).cell 0 _ rfl) (And.intro ((HQ7.out.below hcv).cell 1 _ rfl) (And.intro ((HQ7.out.below hcv).cell 2 _ rfl) (And.intro ((HQ9.out.below hcv).cell 0 _ rfl) (And.intro ((HQ9.out.below hcv).cell 1 _ rfl) (And.intro ((HQ9.out.below hcv).cell 2 _ rfl) (And.intro ((HQ0.out.below hcv).cell 0 _ rfl) (And.intro ((HQ0.out.below hcv).cell 1 _ rfl) (And.intro ((HQ0.out.below hcv).cell 2 _ rfl) (And.intro ((HQ11.out.below hcv).cell 0 _ rfl) (And.intro ((HQ11.out.below hcv).cell 1 _ rfl) (And.intro ((HQ11.out.below hcv).cell 2 _ rfl) (And.intro ((HQ14.out.below hcv).cell 0 _ rfl) (And.intro ((HQ14.out.below hcv).cell 1 _ rfl) ((HQ14.out.below hcv).cell 2 _ rfl))))))))))))))))
          all_goals
            clear z
            go_wp2
            go_ret
            exact ⟨rfl, hbv⟩
        · have HR3 := Lib.hid (HR2.out.trans (if_pos hp))
          have hb0 := beqF hp
          have hpp : (pe == pe) = true := beq_self_eq_true _
          have hbW := below_trans hbw4 (below_alloc w4 (.cells #[.int .i64 0, .slice none 0 0, .slice none 0 0] 25))
          have HQ0 := Lib.hid (HN0.out.alloc (.cells #[.int .i64 0, .slice none 0 0, .slice none 0 0] 25))
          have HQ7 := Lib.hid (HN7.out.alloc (.cells #[.int .i64 0, .slice none 0 0, .slice none 0 0] 25))
          have HQ9 := Lib.hid (HN9.out.alloc (.cells #[.int .i64 0, .slice none 0 0, .slice none 0 0] 25))
          have HQ11 := Lib.hid (HN11.out.alloc (.cells #[.int .i64 0, .slice none 0 0, .slice none 0 0] 25))
          have HQ14 := Lib.hid (Blk.new w4 25 #[.int .i64 0, .slice none 0 0, .slice none 0 0])
          have HW1 := Lib.hid ((HO3.out.below (below_alloc w4 (.cells #[.int .i64 0, .slice none 0 0, .slice none 0 0] 25))).ok)
          have HW2 := Lib.hid (oB_ok 0 (w4.alloc (.cells #[.int .i64 0, .slice none 0 0, .slice none 0 0] 25)))
          have HEQ : Hid (b1.bu = (oB 0).bu) := Lib.hid (by rw [HBU1.out, HR3.out]; rfl)
          have HRC2 : Hid (R.2 = pe) := Lib.hid (by rw [HR3.out])
          rw [HRC2.out]
          clear hp HN0 HN1 HN7 HN9 HN11 HO3 hbw4
          go_wp2_with fail
          obtain ⟨WW, hWW⟩ : ∃ WW, w4.alloc (.cells #[.int .i64 0, .slice none 0 0, .slice none 0 0] 25) = WW := ⟨_, rfl⟩
          rw [hWW] at HQ0 HQ7 HQ9 HQ11 HQ14 hbW HW1 HW2 ⊢
          clear hWW
          have HSA := Lib.hid (fun v => sameBuffers_any (oB 0) (oB 0) v (oB_ok _ _) (oB_ok _ _) rfl)
          unfold Buf.agg' oB at HSA
          dsimp only at HSA
          have HSB := Lib.hid (fun v (h : Below WW.heap.size WW v) => sameBuffers_any b1 (oB 0) v (HW1.out.below h) (HW2.out.below h) HEQ.out)
          unfold Buf.agg' oB at HSB
          dsimp only at HSB
          rw [HV1.out, HV2.out] at HSB
          have hbv := hbW.drew
          have hcv : Below WW.heap.size WW WW.drew := (Below.refl _ _).drew
          have z : WW.drew.cell? ⟨w1.heap.size, 0, none⟩ = some (.int .i64 0) ∧ WW.drew.cell? ⟨w1.heap.size, 1, none⟩ = some (.slice none 0 0) ∧ WW.drew.cell? ⟨w1.heap.size, 2, none⟩ = some (.slice none 0 0) ∧ WW.drew.cell? ⟨w1.heap.size + 1, 0, none⟩ = some (.int .i64 0) ∧ WW.drew.cell? ⟨w1.heap.size + 1, 1, none⟩ = some (.slice none 0 0) ∧ WW.drew.cell? ⟨w1.heap.size + 1, 2, none⟩ = some (.slice none 0 0) ∧ WW.drew.cell? ⟨w.heap.size, 0, none⟩ = some (.int .i64 b.limit) ∧ WW.drew.cell? ⟨w.heap.size, 1, none⟩ = some (.slice Av b.mem.length cv) ∧ WW.drew.cell? ⟨w.heap.size, 2, none⟩ = some (.slice Ar b.runs.length cr) ∧ WW.drew.cell? ⟨w2.heap.size, 0, none⟩ = some (.int .i64 b1.limit) ∧ WW.drew.cell? ⟨w2.heap.size, 1, none⟩ = some (.slice Am1 b1.mem.length cm1) ∧ WW.drew.cell? ⟨w2.heap.size, 2, none⟩ = some (.slice Ar1 b1.runs.length cr1) ∧ WW.drew.cell? ⟨w4.heap.size, 0, none⟩ = some (.int .i64 0) ∧ WW.drew.cell? ⟨w4.heap.size, 1, none⟩ = some (.slice none 0 0) ∧ WW.drew.cell? ⟨w4.heap.size, 2, none⟩ = some (.slice none 0 0) := And.intro (HQ7.out.cell 0 _ rfl) (And.intro (HQ7.out.cell 1 _ rfl) (And.intro (HQ7.out.cell 2 _ rfl) (And.intro (HQ9.out.cell 0 _ rfl) (And.intro (HQ9.out.cell 1 _ rfl) (And.intro (HQ9.out.cell 2 _ rfl) (And.intro (HQ0.out.cell 0 _ rfl) (And.intro (HQ0.out.cell 1 _ rfl) (And.intro (HQ0.out.cell 2 _ rfl) (And.intro (HQ11.out.cell 0 _ rfl) (And.intro (HQ11.out.cell 1 _ rfl) (And.intro (HQ11.out.cell 2 _ rfl) (And.intro (HQ14.out.cell 0 _ rfl) (And.intro (HQ14.out.cell 1 _ rfl) (HQ14.out.cell 2 _ rfl))))))))))))))
          go_region_held3 (fun w' => w'.cell? ⟨w1.heap.size, 0, none⟩ = some (.int .i64 0) ∧ w'.cell? ⟨w1.heap.size, 1, none⟩ = some (.slice none 0 0) ∧ w'.cell? ⟨w1.heap.size, 2, none⟩ = some (.slice none 0 0) ∧ w'.cell? ⟨w1.heap.size + 1, 0, none⟩ = some (.int .i64 0) ∧ w'.cell? ⟨w1.heap.size + 1, 1, none⟩ = some (.slice none 0 0) ∧ w'.cell? ⟨w1.heap.size + 1, 2, none⟩ = some (.slice none 0 0) ∧ w'.cell? ⟨w.heap.size, 0, none⟩ = some (.int .i64 b.limit) ∧ w'.cell? ⟨w.heap.size, 1, none⟩ = some (.slice Av b.mem.length cv) ∧ w'.cell? ⟨w.heap.size, 2, none⟩ = some (.slice Ar b.runs.length cr) ∧ w'.cell? ⟨w2.heap.size, 0, none⟩ = some (.int .i64 b1.limit) ∧ w'.cell? ⟨w2.heap.size, 1, none⟩ = some (.slice Am1 b1.mem.length cm1) ∧ w'.cell? ⟨w2.heap.size, 2, none⟩ = some (.slice Ar1 b1.runs.length cr1) ∧ w'.cell? ⟨w4.heap.size, 0, none⟩ = some (.int .i64 0) ∧ w'.cell? ⟨w4.heap.size, 1, none⟩ = some (.slice none 0 0) ∧ w'.cell? ⟨w4.heap.size, 2, none⟩ = some (.slice none 0 0))
            (exact z)
            (first
              | (go_at_call 10; refine (HBG.out _ hbv).mono ?_; rintro e v5 ⟨rfl, hv5⟩; have hbv := below_trans hbv hv5; have hcv := below_trans hcv hv5; have z : v5.cell? ⟨w1.heap.size, 0, none⟩ = some (.int .i64 0) ∧ v5.cell? ⟨w1.heap.size, 1, none⟩ = some (.slice none 0 0) ∧ v5.cell? ⟨w1.heap.size, 2, none⟩ = some (.slice none 0 0) ∧ v5.cell? ⟨w1.heap.size + 1, 0, none⟩ = some (.int .i64 0) ∧ v5.cell? ⟨w1.heap.size + 1, 1, none⟩ = some (.slice none 0 0) ∧ v5.cell? ⟨w1.heap.size + 1, 2, none⟩ = some (.slice none 0 0) ∧ v5.cell? ⟨w.heap.size, 0, none⟩ = some (.int .i64 b.limit) ∧ v5.cell? ⟨w.heap.size, 1, none⟩ = some (.slice Av b.mem.length cv) ∧ v5.cell? ⟨w.heap.size, 2, none⟩ = some (.slice Ar b.runs.length cr) ∧ v5.cell? ⟨w2.heap.size, 0, none⟩ = some (.int .i64 b1.limit) ∧ v5.cell? ⟨w2.heap.size, 1, none⟩ = some (.slice Am1 b1.mem.length cm1) ∧ v5.cell? ⟨w2.heap.size, 2, none⟩ = some (.slice Ar1 b1.runs.length cr1) ∧ v5.cell? ⟨w4.heap.size, 0, none⟩ = some (.int .i64 0) ∧ v5.cell? ⟨w4.heap.size, 1, none⟩ = some (.slice none 0 0) ∧ v5.cell? ⟨w4.heap.size, 2, none⟩ = some (.slice none 0 0) := And.intro ((HQ7.out.below hcv).cell 0 _ rfl) (And.intro ((HQ7.out.below hcv).cell 1 _ rfl) (And.intro ((HQ7.out.below hcv).cell 2 _ rfl) (And.intro ((HQ9.out.below hcv).cell 0 _ rfl) (And.intro ((HQ9.out.below hcv).cell 1 _ rfl) (And.intro ((HQ9.out.below hcv).cell 2 _ rfl) (And.intro ((HQ0.out.below hcv).cell 0 _ rfl) (And.intro ((HQ0.out.below hcv).cell 1 _ rfl) (And.intro ((HQ0.out.below hcv).cell 2 _ rfl) (And.intro ((HQ11.out.below hcv).cell 0 _ rfl) (And.intro ((HQ11.out.below hcv).cell 1 _ rfl) (And.intro ((HQ11.out.below hcv).cell 2 _ rfl) (And.intro ((HQ14.out.below hcv).cell 0 _ rfl) (And.intro ((HQ14.out.below hcv).cell 1 _ rfl) ((HQ14.out.below hcv).cell 2 _ rfl)))))))))))))))
              | (go_at_call 11; with_reducible refine (HSA.out _).mono ?_; rintro e v5 ⟨rfl, hv5⟩; have hbv := below_trans hbv hv5; have hcv := below_trans hcv hv5; have z : v5.cell? ⟨w1.heap.size, 0, none⟩ = some (.int .i64 0) ∧ v5.cell? ⟨w1.heap.size, 1, none⟩ = some (.slice none 0 0) ∧ v5.cell? ⟨w1.heap.size, 2, none⟩ = some (.slice none 0 0) ∧ v5.cell? ⟨w1.heap.size + 1, 0, none⟩ = some (.int .i64 0) ∧ v5.cell? ⟨w1.heap.size + 1, 1, none⟩ = some (.slice none 0 0) ∧ v5.cell? ⟨w1.heap.size + 1, 2, none⟩ = some (.slice none 0 0) ∧ v5.cell? ⟨w.heap.size, 0, none⟩ = some (.int .i64 b.limit) ∧ v5.cell? ⟨w.heap.size, 1, none⟩ = some (.slice Av b.mem.length cv) ∧ v5.cell? ⟨w.heap.size, 2, none⟩ = some (.slice Ar b.runs.length cr) ∧ v5.cell? ⟨w2.heap.size, 0, none⟩ = some (.int .i64 b1.limit) ∧ v5.cell? ⟨w2.heap.size, 1, none⟩ = some (.slice Am1 b1.mem.length cm1) ∧ v5.cell? ⟨w2.heap.size, 2, none⟩ = some (.slice Ar1 b1.runs.length cr1) ∧ v5.cell? ⟨w4.heap.size, 0, none⟩ = some (.int .i64 0) ∧ v5.cell? ⟨w4.heap.size, 1, none⟩ = some (.slice none 0 0) ∧ v5.cell? ⟨w4.heap.size, 2, none⟩ = some (.slice none 0 0) := And.intro ((HQ7.out.below hcv).cell 0 _ rfl) (And.intro ((HQ7.out.below hcv).cell 1 _ rfl) (And.intro ((HQ7.out.below hcv).cell 2 _ rfl) (And.intro ((HQ9.out.below hcv).cell 0 _ rfl) (And.intro ((HQ9.out.below hcv).cell 1 _ rfl) (And.intro ((HQ9.out.below hcv).cell 2 _ rfl) (And.intro ((HQ0.out.below hcv).cell 0 _ rfl) (And.intro ((HQ0.out.below hcv).cell 1 _ rfl) (And.intro ((HQ0.out.below hcv).cell 2 _ rfl) (And.intro ((HQ11.out.below hcv).cell 0 _ rfl) (And.intro ((HQ11.out.below hcv).cell 1 _ rfl) (And.intro ((HQ11.out.below hcv).cell 2 _ rfl) (And.intro ((HQ14.out.below hcv).cell 0 _ rfl) (And.intro ((HQ14.out.below hcv).cell 1 _ rfl) ((HQ14.out.below hcv).cell 2 _ rfl)))))))))))))))
              | (go_at_call 11; with_reducible refine (HSB.out _ hcv).mono ?_; rintro e v5 ⟨rfl, hv5⟩; have hbv := below_trans hbv hv5; have hcv := below_trans hcv hv5; have z : v5.cell? ⟨w1.heap.size, 0, none⟩ = some (.int .i64 0) ∧ v5.cell? ⟨w1.heap.size, 1, none⟩ = some (.slice none 0 0) ∧ v5.cell? ⟨w1.heap.size, 2, none⟩ = some (.slice none 0 0) ∧ v5.cell? ⟨w1.heap.size + 1, 0, none⟩ = some (.int .i64 0) ∧ v5.cell? ⟨w1.heap.size + 1, 1, none⟩ = some (.slice none 0 0) ∧ v5.cell? ⟨w1.heap.size + 1, 2, none⟩ = some (.slice none 0 0) ∧ v5.cell? ⟨w.heap.size, 0, none⟩ = some (.int .i64 b.limit) ∧ v5.cell? ⟨w.heap.size, 1, none⟩ = some (.slice Av b.mem.length cv) ∧ v5.cell? ⟨w.heap.size, 2, none⟩ = some (.slice Ar b.runs.length cr) ∧ v5.cell? ⟨w2.heap.size, 0, none⟩ = some (.int .i64 b1.limit) ∧ v5.cell? ⟨w2.heap.size, 1, none⟩ = some (.slice Am1 b1.mem.length cm1) ∧ v5.cell? ⟨w2.heap.size, 2, none⟩ = some (.slice Ar1 b1.runs.length cr1) ∧ v5.cell? ⟨w4.heap.size, 0, none⟩ = some (.int .i64 0) ∧ v5.cell? ⟨w4.heap.size, 1, none⟩ = some (.slice none 0 0) ∧ v5.cell? ⟨w4.heap.size, 2, none⟩ = some (.slice none 0 0) := And.intro ((HQ7.out.below hcv).cell 0 _ rfl) (And.intro ((HQ7.out.below hcv).cell 1 _ rfl) (And.intro ((HQ7.out.below hcv).cell 2 _ rfl) (And.intro ((HQ9.out.below hcv).cell 0 _ rfl) (And.intro ((HQ9.out.below hcv).cell 1 _ rfl) (And.intro ((HQ9.out.below hcv).cell 2 _ rfl) (And.intro ((HQ0.out.below hcv).cell 0 _ rfl) (And.intro ((HQ0.out.below hcv).cell 1 _ rfl) (And.intro ((HQ0.out.below hcv).cell 2 _ rfl) (And.intro ((HQ11.out.below hcv).cell 0 _ rfl) (And.intro ((HQ11.out.below hcv).cell 1 _ rfl) (And.intro ((HQ11.out.below hcv).cell 2 _ rfl) (And.intro ((HQ14.out.below hcv).cell 0 _ rfl) (And.intro ((HQ14.out.below hcv).cell 1 _ rfl) ((HQ14.out.below hcv).cell 2 _ rfl)))))))))))))))
              | (go_at_call 12; refine (HCH.out _ hbv).mono ?_; rintro e v5 ⟨rfl, hv5⟩; have hbv := below_trans hbv hv5; have hcv := below_trans hcv hv5; have z : v5.cell? ⟨w1.heap.size, 0, none⟩ = some (.int .i64 0) ∧ v5.cell? ⟨w1.heap.size, 1, none⟩ = some (.slice none 0 0) ∧ v5.cell? ⟨w1.heap.size, 2, none⟩ = some (.slice none 0 0) ∧ v5.cell? ⟨w1.heap.size + 1, 0, none⟩ = some (.int .i64 0) ∧ v5.cell? ⟨w1.heap.size + 1, 1, none⟩ = some (.slice none 0 0) ∧ v5.cell? ⟨w1.heap.size + 1, 2, none⟩ = some (.slice none 0 0) ∧ v5.cell? ⟨w.heap.size, 0, none⟩ = some (.int .i64 b.limit) ∧ v5.cell? ⟨w.heap.size, 1, none⟩ = some (.slice Av b.mem.length cv) ∧ v5.cell? ⟨w.heap.size, 2, none⟩ = some (.slice Ar b.runs.length cr) ∧ v5.cell? ⟨w2.heap.size, 0, none⟩ = some (.int .i64 b1.limit) ∧ v5.cell? ⟨w2.heap.size, 1, none⟩ = some (.slice Am1 b1.mem.length cm1) ∧ v5.cell? ⟨w2.heap.size, 2, none⟩ = some (.slice Ar1 b1.runs.length cr1) ∧ v5.cell? ⟨w4.heap.size, 0, none⟩ = some (.int .i64 0) ∧ v5.cell? ⟨w4.heap.size, 1, none⟩ = some (.slice none 0 0) ∧ v5.cell? ⟨w4.heap.size, 2, none⟩ = some (.slice none 0 0) := And.intro ((HQ7.out.below hcv).cell 0 _ rfl) (And.intro ((HQ7.out.below hcv).cell 1 _ rfl) (And.intro ((HQ7.out.below hcv).cell 2 _ rfl) (And.intro ((HQ9.out.below hcv).cell 0 _ rfl) (And.intro ((HQ9.out.below hcv).cell 1 _ rfl) (And.intro ((HQ9.out.below hcv).cell 2 _ rfl) (And.intro ((HQ0.out.below hcv).cell 0 _ rfl) (And.intro ((HQ0.out.below hcv).cell 1 _ rfl) (And.intro ((HQ0.out.below hcv).cell 2 _ rfl) (And.intro ((HQ11.out.below hcv).cell 0 _ rfl) (And.intro ((HQ11.out.below hcv).cell 1 _ rfl) (And.intro ((HQ11.out.below hcv).cell 2 _ rfl) (And.intro ((HQ14.out.below hcv).cell 0 _ rfl) (And.intro ((HQ14.out.below hcv).cell 1 _ rfl) ((HQ14.out.below hcv).cell 2 _ rfl)))))))))))))))
              | (go_at_call 7; refine (HRC.out _ hbv).mono ?_; rintro e v5 ⟨rfl, hv5⟩; have hbv := below_trans hbv hv5; have hcv := below_trans hcv hv5; have z : v5.cell? ⟨w1.heap.size, 0, none⟩ = some (.int .i64 0) ∧ v5.cell? ⟨w1.heap.size, 1, none⟩ = some (.slice none 0 0) ∧ v5.cell? ⟨w1.heap.size, 2, none⟩ = some (.slice none 0 0) ∧ v5.cell? ⟨w1.heap.size + 1, 0, none⟩ = some (.int .i64 0) ∧ v5.cell? ⟨w1.heap.size + 1, 1, none⟩ = some (.slice none 0 0) ∧ v5.cell? ⟨w1.heap.size + 1, 2, none⟩ = some (.slice none 0 0) ∧ v5.cell? ⟨w.heap.size, 0, none⟩ = some (.int .i64 b.limit) ∧ v5.cell? ⟨w.heap.size, 1, none⟩ = some (.slice Av b.mem.length cv) ∧ v5.cell? ⟨w.heap.size, 2, none⟩ = some (.slice Ar b.runs.length cr) ∧ v5.cell? ⟨w2.heap.size, 0, none⟩ = some (.int .i64 b1.limit) ∧ v5.cell? ⟨w2.heap.size, 1, none⟩ = some (.slice Am1 b1.mem.length cm1) ∧ v5.cell? ⟨w2.heap.size, 2, none⟩ = some (.slice Ar1 b1.runs.length cr1) ∧ v5.cell? ⟨w4.heap.size, 0, none⟩ = some (.int .i64 0) ∧ v5.cell? ⟨w4.heap.size, 1, none⟩ = some (.slice none 0 0) ∧ v5.cell? ⟨w4.heap.size, 2, none⟩ = some (.slice none 0 0) := And.intro ((HQ7.out.below hcv).cell 0 _ rfl) (And.intro ((HQ7.out.below hcv).cell 1 _ rfl) (And.intro ((HQ7.out.below hcv).cell 2 _ rfl) (And.intro ((HQ9.out.below hcv).cell 0 _ rfl) (And.intro ((HQ9.out.below hcv).cell 1 _ rfl) (And.intro ((HQ9.out.below hcv).cell 2 _ rfl) (And.intro ((HQ0.out.below hcv).cell 0 _ rfl) (And.intro ((HQ0.out.below hcv).cell 1 _ rfl) (And.intro ((HQ0.out.below hcv).cell 2 _ rfl) (And.intro ((HQ11.out.below hcv).cell 0 _ rfl) (And.intro ((HQ11.out.below hcv).cell 1 _ rfl) (And.intro ((HQ11.out.below hcv).cell 2 _ rfl) (And.intro ((HQ14.out.below hcv).cell 0 _ rfl) (And.intro ((HQ14.out.below hcv).cell 1 _ rfl) ((HQ14.out.below hcv).cell 2 _ rfl))))))))))))))))
          all_goals
            clear z
            go_wp2
            go_ret
            exact ⟨rfl, hbv⟩
      · have HR3 := Lib.hid (HR.out.trans (if_pos hz))
        have hb0 := beqF hz
        have hpp : (ck == ck) = true := beq_self_eq_true _
        have hbW := below_trans hbw3 (below_alloc w3 (.cells #[.int .i64 0, .slice none 0 0, .slice none 0 0] 25))
        have HQ0 := Lib.hid (HM0.out.alloc (.cells #[.int .i64 0, .slice none 0 0, .slice none 0 0] 25))
        have HQ7 := Lib.hid (HM7.out.alloc (.cells #[.int .i64 0, .slice none 0 0, .slice none 0 0] 25))
        have HQ9 := Lib.hid (HM9.out.alloc (.cells #[.int .i64 0, .slice none 0 0, .slice none 0 0] 25))
        have HQ11 := Lib.hid (HM11.out.alloc (.cells #[.int .i64 0, .slice none 0 0, .slice none 0 0] 25))
        have HQ14 := Lib.hid (Blk.new w3 25 #[.int .i64 0, .slice none 0 0, .slice none 0 0])
        have HW1 := Lib.hid ((HO2.out.below (below_alloc w3 (.cells #[.int .i64 0, .slice none 0 0, .slice none 0 0] 25))).ok)
        have HW2 := Lib.hid (oB_ok 0 (w3.alloc (.cells #[.int .i64 0, .slice none 0 0, .slice none 0 0] 25)))
        have HEQ : Hid (b1.bu = (oB 0).bu) := Lib.hid (by rw [HBU1.out, HR3.out]; rfl)
        have HRC2 : Hid (R.2 = ck) := Lib.hid (by rw [HR3.out])
        rw [HRC2.out]
        clear hz HM0 HM1 HM7 HM9 HM11 HO2 hbw3
        go_wp2_with fail
        obtain ⟨WW, hWW⟩ : ∃ WW, w3.alloc (.cells #[.int .i64 0, .slice none 0 0, .slice none 0 0] 25) = WW := ⟨_, rfl⟩
        rw [hWW] at HQ0 HQ7 HQ9 HQ11 HQ14 hbW HW1 HW2 ⊢
        clear hWW
        have HSA := Lib.hid (fun v => sameBuffers_any (oB 0) (oB 0) v (oB_ok _ _) (oB_ok _ _) rfl)
        unfold Buf.agg' oB at HSA
        dsimp only at HSA
        have HSB := Lib.hid (fun v (h : Below WW.heap.size WW v) => sameBuffers_any b1 (oB 0) v (HW1.out.below h) (HW2.out.below h) HEQ.out)
        unfold Buf.agg' oB at HSB
        dsimp only at HSB
        rw [HV1.out, HV2.out] at HSB
        have hbv := hbW.drew
        have hcv : Below WW.heap.size WW WW.drew := (Below.refl _ _).drew
        have z : WW.drew.cell? ⟨w1.heap.size, 0, none⟩ = some (.int .i64 0) ∧ WW.drew.cell? ⟨w1.heap.size, 1, none⟩ = some (.slice none 0 0) ∧ WW.drew.cell? ⟨w1.heap.size, 2, none⟩ = some (.slice none 0 0) ∧ WW.drew.cell? ⟨w1.heap.size + 1, 0, none⟩ = some (.int .i64 0) ∧ WW.drew.cell? ⟨w1.heap.size + 1, 1, none⟩ = some (.slice none 0 0) ∧ WW.drew.cell? ⟨w1.heap.size + 1, 2, none⟩ = some (.slice none 0 0) ∧ WW.drew.cell? ⟨w.heap.size, 0, none⟩ = some (.int .i64 b.limit) ∧ WW.drew.cell? ⟨w.heap.size, 1, none⟩ = some (.slice Av b.mem.length cv) ∧ WW.drew.cell? ⟨w.heap.size, 2, none⟩ = some (.slice Ar b.runs.length cr) ∧ WW.drew.cell? ⟨w2.heap.size, 0, none⟩ = some (.int .i64 b1.limit) ∧ WW.drew.cell? ⟨w2.heap.size, 1, none⟩ = some (.slice Am1 b1.mem.length cm1) ∧ WW.drew.cell? ⟨w2.heap.size, 2, none⟩ = some (.slice Ar1 b1.runs.length cr1) ∧ WW.drew.cell? ⟨w3.heap.size, 0, none⟩ = some (.int .i64 0) ∧ WW.drew.cell? ⟨w3.heap.size, 1, none⟩ = some (.slice none 0 0) ∧ WW.drew.cell? ⟨w3.heap.size, 2, none⟩ = some (.slice none 0 0) := And.intro (HQ7.out.cell 0 _ rfl) (And.intro (HQ7.out.cell 1 _ rfl) (And.intro (HQ7.out.cell 2 _ rfl) (And.intro (HQ9.out.cell 0 _ rfl) (And.intro (HQ9.out.cell 1 _ rfl) (And.intro (HQ9.out.cell 2 _ rfl) (And.intro (HQ0.out.cell 0 _ rfl) (And.intro (HQ0.out.cell 1 _ rfl) (And.intro (HQ0.out.cell 2 _ rfl) (And.intro (HQ11.out.cell 0 _ rfl) (And.intro (HQ11.out.cell 1 _ rfl) (And.intro (HQ11.out.cell 2 _ rfl) (And.intro (HQ14.out.cell 0 _ rfl) (And.intro (HQ14.out.cell 1 _ rfl) (HQ14.out.cell 2 _ rfl))))))))))))))
        go_region_held3 (fun w' => w'.cell? ⟨w1.heap.size, 0, none⟩ = some (.int .i64 0) ∧ w'.cell? ⟨w1.heap.size, 1, none⟩ = some (.slice none 0 0) ∧ w'.cell? ⟨w1.heap.size, 2, none⟩ = some (.slice none 0 0) ∧ w'.cell? ⟨w1.heap.size + 1, 0, none⟩ = some (.int .i64 0) ∧ w'.cell? ⟨w1.heap.size + 1, 1, none⟩ = some (.slice none 0 0) ∧ w'.cell? ⟨w1.heap.size + 1, 2, none⟩ = some (.slice none 0 0) ∧ w'.cell? ⟨w.heap.size, 0, none⟩ = some (.int .i64 b.limit) ∧ w'.cell? ⟨w.heap.size, 1, none⟩ = some (.slice Av b.mem.length cv) ∧ w'.cell? ⟨w.heap.size, 2, none⟩ = some (.slice Ar b.runs.length cr) ∧ w'.cell? ⟨w2.heap.size, 0, none⟩ = some (.int .i64 b1.limit) ∧ w'.cell? ⟨w2.heap.size, 1, none⟩ = some (.slice Am1 b1.mem.length cm1) ∧ w'.cell? ⟨w2.heap.size, 2, none⟩ = some (.slice Ar1 b1.runs.length cr1) ∧ w'.cell? ⟨w3.heap.size, 0, none⟩ = some (.int .i64 0) ∧ w'.cell? ⟨w3.heap.size, 1, none⟩ = some (.slice none 0 0) ∧ w'.cell? ⟨w3.heap.size, 2, none⟩ = some (.slice none 0 0))
          (exact z)
          (first
            | (go_at_call 10; refine (HBG.out _ hbv).mono ?_; rintro e v5 ⟨rfl, hv5⟩; have hbv := below_trans hbv hv5; have hcv := below_trans hcv hv5; have z : v5.cell? ⟨w1.heap.size, 0, none⟩ = some (.int .i64 0) ∧ v5.cell? ⟨w1.heap.size, 1, none⟩ = some (.slice none 0 0) ∧ v5.cell? ⟨w1.heap.size, 2, none⟩ = some (.slice none 0 0) ∧ v5.cell? ⟨w1.heap.size + 1, 0, none⟩ = some (.int .i64 0) ∧ v5.cell? ⟨w1.heap.size + 1, 1, none⟩ = some (.slice none 0 0) ∧ v5.cell? ⟨w1.heap.size + 1, 2, none⟩ = some (.slice none 0 0) ∧ v5.cell? ⟨w.heap.size, 0, none⟩ = some (.int .i64 b.limit) ∧ v5.cell? ⟨w.heap.size, 1, none⟩ = some (.slice Av b.mem.length cv) ∧ v5.cell? ⟨w.heap.size, 2, none⟩ = some (.slice Ar b.runs.length cr) ∧ v5.cell? ⟨w2.heap.size, 0, none⟩ = some (.int .i64 b1.limit) ∧ v5.cell? ⟨w2.heap.size, 1, none⟩ = some (.slice Am1 b1.mem.length cm1) ∧ v5.cell? ⟨w2.heap.size, 2, none⟩ = some (.slice Ar1 b1.runs.length cr1) ∧ v5.cell? ⟨w3.heap.size, 0, none⟩ = some (.int .i64 0) ∧ v5.cell? ⟨w3.heap.size, 1, none⟩ = some (.slice none 0 0) ∧ v5.cell? ⟨w3.heap.size, 2, none⟩ = some (.slice none 0 0) := And.intro ((HQ7.out.below hcv).cell 0 _ rfl) (And.intro ((HQ7.out.below hcv).cell 1 _ rfl) (And.intro ((HQ7.out.below hcv).cell 2 _ rfl) (And.intro ((HQ9.out.below hcv).cell 0 _ rfl) (And.intro ((HQ9.out.below hcv).cell 1 _ rfl) (And.intro ((HQ9.out.below hcv).cell 2 _ rfl) (And.intro ((HQ0.out.below hcv).cell 0 _ rfl) (And.intro ((HQ0.out.below hcv).cell 1 _ rfl) (And.intro ((HQ0.out.below hcv).cell 2 _ rfl) (And.intro ((HQ11.out.below hcv).cell 0 _ rfl) (And.intro ((HQ11.out.below hcv).cell 1 _ rfl) (And.intro ((HQ11.out.below hcv).cell 2 _ rfl) (And.intro ((HQ14.out.below hcv).cell 0 _ rfl) (And.intro ((HQ14.out.below hcv).cell 1 _ rfl) ((HQ14.out.below hcv).cell 2 _ rfl)))))))))))))))
            | (go_at_call 11; with_reducible refine (HSA.out _).mono ?_; rintro e v5 ⟨rfl, hv5⟩; have hbv := below_trans hbv hv5; have hcv := below_trans hcv hv5; have z : v5.cell? ⟨w1.heap.size, 0, none⟩ = some (.int .i64 0) ∧ v5.cell? ⟨w1.heap.size, 1, none⟩ = some (.slice none 0 0) ∧ v5.cell? ⟨w1.heap.size, 2, none⟩ = some (.slice none 0 0) ∧ v5.cell? ⟨w1.heap.size + 1, 0, none⟩ = some (.int .i64 0) ∧ v5.cell? ⟨w1.heap.size + 1, 1, none⟩ = some (.slice none 0 0) ∧ v5.cell? ⟨w1.heap.size + 1, 2, none⟩ = some (.slice none 0 0) ∧ v5.cell? ⟨w.heap.size, 0, none⟩ = some (.int .i64 b.limit) ∧ v5.cell? ⟨w.heap.size, 1, none⟩ = some (.slice Av b.mem.length cv) ∧ v5.cell? ⟨w.heap.size, 2, none⟩ = some (.slice Ar b.runs.length cr) ∧ v5.cell? ⟨w2.heap.size, 0, none⟩ = some (.int .i64 b1.limit) ∧ v5.cell? ⟨w2.heap.size, 1, none⟩ = some (.slice Am1 b1.mem.length cm1) ∧ v5.cell? ⟨w2.heap.size, 2, none⟩ = some (.slice Ar1 b1.runs.length cr1) ∧ v5.cell? ⟨w3.heap.size, 0, none⟩ = some (.int .i64 0) ∧ v5.cell? ⟨w3.heap.size, 1, none⟩ = some (.slice none 0 0) ∧ v5.cell? ⟨w3.heap.size, 2, none⟩ = some (.slice none 0 0) := And.intro ((HQ7.out.below hcv).cell 0 _ rfl) (And.intro ((HQ7.out.below hcv).cell 1 _ rfl) (And.intro ((HQ7.out.below hcv).cell 2 _ rfl) (And.intro ((HQ9.out.below hcv).cell 0 _ rfl) (And.intro ((HQ9.out.below hcv).cell 1 _ rfl) (And.intro ((HQ9.out.below hcv).cell 2 _ rfl) (And.intro ((HQ0.out.below hcv).cell 0 _ rfl) (And.intro ((HQ0.out.below hcv).cell 1 _ rfl) (And.intro ((HQ0.out.below hcv).cell 2 _ rfl) (And.intro ((HQ11.out.below hcv).cell 0 _ rfl) (And.intro ((HQ11.out.below hcv).cell 1 _ rfl) (And.intro ((HQ11.out.below hcv).cell 2 _ rfl) (And.intro ((HQ14.out.below hcv).cell 0 _ rfl) (And.intro ((HQ14.out.below hcv).cell 1 _ rfl) ((HQ14.out.below hcv).cell 2 _ rfl)))))))))))))))
            | (go_at_call 11; with_reducible refine (HSB.out _ hcv).mono ?_; rintro e v5 ⟨rfl, hv5⟩; have hbv := below_trans hbv hv5; have hcv := below_trans hcv hv5; have z : v5.cell? ⟨w1.heap.size, 0, none⟩ = some (.int .i64 0) ∧ v5.cell? ⟨w1.heap.size, 1, none⟩ = some (.slice none 0 0) ∧ v5.cell? ⟨w1.heap.size, 2, none⟩ = some (.slice none 0 0) ∧ v5.cell? ⟨w1.heap.size + 1, 0, none⟩ = some (.int .i64 0) ∧ v5.cell? ⟨w1.heap.size + 1, 1, none⟩ = some (.slice none 0 0) ∧ v5.cell? ⟨w1.heap.size + 1, 2, none⟩ = some (.slice none 0 0) ∧ v5.cell? ⟨w.heap.size, 0, none⟩ = some (.int .i64 b.limit) ∧ v5.cell? ⟨w.heap.size, 1, none⟩ = some (.slice Av b.mem.length cv) ∧ v5.cell? ⟨w.heap.size, 2, none⟩ = some (.slice Ar b.runs.length cr) ∧ v5.cell? ⟨w2.heap.size, 0, none⟩ = some (.int .i64 b1.limit) ∧ v5.cell? ⟨w2.heap.size, 1, none⟩ = some (.slice Am1 b1.mem.length cm1) ∧ v5.cell? ⟨w2.heap.size, 2, none⟩ = some (.slice Ar1 b1.runs.length cr1) ∧ v5.cell? ⟨w3.heap.size, 0, none⟩ = some (.int .i64 0) ∧ v5.cell? ⟨w3.heap.size, 1, none⟩ = some (.slice none 0 0) ∧ v5.cell? ⟨w3.heap.size, 2, none⟩ = some (.slice none 0 0) := And.intro ((HQ7.out.below hcv).cell 0 _ rfl) (And.intro ((HQ7.out.below hcv).cell 1 _ rfl) (And.intro ((HQ7.out.below hcv).cell 2 _ rfl) (And.intro ((HQ9.out.below hcv).cell 0 _ rfl) (And.intro ((HQ9.out.below hcv).cell 1 _ rfl) (And.intro ((HQ9.out.below hcv).cell 2 _ rfl) (And.intro ((HQ0.out.below hcv).cell 0 _ rfl) (And.intro ((HQ0.out.below hcv).cell 1 _ rfl) (And.intro ((HQ0.out.below hcv).cell 2 _ rfl) (And.intro ((HQ11.out.below hcv).cell 0 _ rfl) (And.intro ((HQ11.out.below hcv).cell 1 _ rfl) (And.intro ((HQ11.out.below hcv).cell 2 _ rfl) (And.intro ((HQ14.out.below hcv).cell 0 _ rfl) (And.intro ((HQ14.out.below hcv).cell 1 _ rfl) ((HQ14.out.below hcv).cell 2 _ rfl)))))))))))))))
            | (go_at_call 12; refine (HCH.out _ hbv).mono ?_; rintro e v5 ⟨rfl, hv5⟩; have hbv := below_trans hbv hv5; have hcv := below_trans hcv hv5; have z : v5.cell? ⟨w1.heap.size, 0, none⟩ = some (.int .i64 0) ∧ v5.cell? ⟨w1.heap.size, 1, none⟩ = some (.slice none 0 0) ∧ v5.cell? ⟨w1.heap.size, 2, none⟩ = some (.slice none 0 0) ∧ v5.cell? ⟨w1.heap.size + 1, 0, none⟩ = some (.int .i64 0) ∧ v5.cell? ⟨w1.heap.size + 1, 1, none⟩ = some (.slice none 0 0) ∧ v5.cell? ⟨w1.heap.size + 1, 2, none⟩ = some (.slice none 0 0) ∧ v5.cell? ⟨w.heap.size, 0, none⟩ = some (.int .i64 b.limit) ∧ v5.cell? ⟨w.heap.size, 1, none⟩ = some (.slice Av b.mem.length cv) ∧ v5.cell? ⟨w.heap.size, 2, none⟩ = some (.slice Ar b.runs.length cr) ∧ v5.cell? ⟨w2.heap.size, 0, none⟩ = some (.int .i64 b1.limit) ∧ v5.cell? ⟨w2.heap.size, 1, none⟩ = some (.slice Am1 b1.mem.length cm1) ∧ v5.cell? ⟨w2.heap.size, 2, none⟩ = some (.slice Ar1 b1.runs.length cr1) ∧ v5.cell? ⟨w3.heap.size, 0, none⟩ = some (.int .i64 0) ∧ v5.cell? ⟨w3.heap.size, 1, none⟩ = some (.slice none 0 0) ∧ v5.cell? ⟨w3.heap.size, 2, none⟩ = some (.slice none 0 0) := And.intro ((HQ7.out.below hcv).cell 0 _ rfl) (And.intro ((HQ7.out.below hcv).cell 1 _ rfl) (And.intro ((HQ7.out.below hcv).cell 2 _ rfl) (And.intro ((HQ9.out.below hcv).cell 0 _ rfl) (And.intro ((HQ9.out.below hcv).cell 1 _ rfl) (And.intro ((HQ9.out.below hcv).cell 2 _ rfl) (And.intro ((HQ0.out.below hcv).cell 0 _ rfl) (And.intro ((HQ0.out.below hcv).cell 1 _ rfl) (And.intro ((HQ0.out.below hcv).cell 2 _ rfl) (And.intro ((HQ11.out.below hcv).cell 0 _ rfl) (And.intro ((HQ11.out.below hcv).cell 1 _ rfl) (And.intro ((HQ11.out.below hcv).cell 2 _ rfl) (And.intro ((HQ14.out.below hcv).cell 0 _ rfl) (And.intro ((HQ14.out.below hcv).cell 1 _ rfl) ((HQ14.out.below hcv).cell 2 _ rfl)))))))))))))))
            | (go_at_call 7; refine (HRC.out _ hbv).mono ?_; rintro e v5 ⟨rfl, hv5⟩; have hbv := below_trans hbv hv5; have hcv := below_trans hcv hv5; have z : v5.cell? ⟨w1.heap.size, 0, none⟩ = some (.int .i64 0) ∧ v5.cell? ⟨w1.heap.size, 1, none⟩ = some (.slice none 0 0) ∧ v5.cell? ⟨w1.heap.size, 2, none⟩ = some (.slice none 0 0) ∧ v5.cell? ⟨w1.heap.size + 1, 0, none⟩ = some (.int .i64 0) ∧ v5.cell? ⟨w1.heap.size + 1, 1, none⟩ = some (.slice none 0 0) ∧ v5.cell? ⟨w1.heap.size + 1, 2, none⟩ = some (.slice none 0 0) ∧ v5.cell? ⟨w.heap.size, 0, none⟩ = some (.int .i64 b.limit) ∧ v5.cell? ⟨w.heap.size, 1, none⟩ = some (.slice Av b.mem.length cv) ∧ v5.cell? ⟨w.heap.size, 2, none⟩ = some (.slice Ar b.runs.length cr) ∧ v5.cell? ⟨w2.heap.size, 0, none⟩ = some (.int .i64 b1.limit) ∧ v5.cell? ⟨w2.heap.size, 1, none⟩ = some (.slice Am1 b1.mem.length cm1) ∧ v5.cell? ⟨w2.heap.size, 2, none⟩ = some (.slice Ar1 b1.runs.length cr1) ∧ v5.cell? ⟨w3.heap.size, 0, none⟩ = some (.int .i64 0) ∧ v5.cell? ⟨w3.heap.size, 1, none⟩ = some (.slice none 0 0) ∧ v5.cell? ⟨w3.heap.size, 2, none⟩ = some (.slice none 0 0) := And.intro ((HQ7.out.below hcv).cell 0 _ rfl) (And.intro ((HQ7.out.below hcv).cell 1 _ rfl) (And.intro ((HQ7.out.below hcv).cell 2 _ rfl) (And.intro ((HQ9.out.below hcv).cell 0 _ rfl) (And.intro ((HQ9.out.below hcv).cell 1 _ rfl) (And.intro ((HQ9.out.below hcv).cell 2 _ rfl) (And.intro ((HQ0.out.below hcv).cell 0 _ rfl) (And.intro ((HQ0.out.below hcv).cell 1 _ rfl) (And.intro ((HQ0.out.below hcv).cell 2 _ rfl) (And.intro ((HQ11.out.below hcv).cell 0 _ rfl) (And.intro ((HQ11.out.below hcv).cell 1 _ rfl) (And.intro ((HQ11.out.below hcv).cell 2 _ rfl) (And.intro ((HQ14.out.below hcv).cell 0 _ rfl) (And.intro ((HQ14.out.below hcv).cell 1 _ rfl) ((HQ14.out.below hcv).cell 2 _ rfl))))))))))))))))
        all_goals
          clear z
          go_wp2
          go_ret
          exact ⟨rfl, hbv⟩
  · rw [newB_no (by rw [hi]; simp; omega)]
    have hbA := below_trans (below_trans hbw1 (below_alloc w1 (.cells #[.int .i64 0, .slice none 0 0, .slice none 0 0] 25))) (below_alloc _ (.cells #[.int .i64 0, .slice none 0 0, .slice none 0 0] 25))
    have k0 := (HA0.out.alloc (.cells #[.int .i64 0, .slice none 0 0, .slice none 0 0] 25)).alloc (.cells #[.int .i64 0, .slice none 0 0, .slice none 0 0] 25)
    have k1 := (HA1.out.alloc (.cells #[.int .i64 0, .slice none 0 0, .slice none 0 0] 25)).alloc (.cells #[.int .i64 0, .slice none 0 0, .slice none 0 0] 25)
    have k7 := (Blk.new w1 25 #[.int .i64 0, .slice none 0 0, .slice none 0 0]).alloc (.cells #[.int .i64 0, .slice none 0 0, .slice none 0 0] 25)
    have k9 := Blk.new (w1.alloc (.cells #[.int .i64 0, .slice none 0 0, .slice none 0 0] 25)) 25 #[.int .i64 0, .slice none 0 0, .slice none 0 0]
    simp only [World.size_alloc] at k9
    have j0 := k0
    have j1 := k1
    have j7 := k7
    have hbZ := hbA
    have J9 : Blk ((w1.alloc (.cells #[.int .i64 0, .slice none 0 0, .slice none 0 0] 25)).alloc (.cells #[.int .i64 0, .slice none 0 0, .slice none 0 0] 25)) (w1.heap.size + 1) 25 #[.int .i64 0, .slice none 0 0, .slice none 0 0] := k9
    have y0 := j0.cell 0 _ rfl
    have y1 := j0.cell 1 _ rfl
    have y2 := j0.cell 2 _ rfl
    have x0 := j1.cell 0 _ rfl
    have x1 := j1.cell 1 _ rfl
    have x2 := j1.cell 2 _ rfl
    have x3 := j1.cell 3 _ rfl
    have x4 := j1.cell 4 _ rfl
    have HJ0 := Lib.hid j0
    have HJ1 := Lib.hid j1
    have HJ7 := Lib.hid j7
    have HJ9 := Lib.hid J9
    clear k0 k1 k7 k9 j0 j1 j7 J9 hbA HA0 HA1
    go_wp2_with fail
    refine (HPU.out _ hbZ).mono ?_
    rintro e w2 ⟨b1, rfl, hob1, hbu1, hb2⟩
    obtain ⟨Am1, cm1, hvm1, -⟩ := id hob1.ok.mem.sl
    obtain ⟨Ar1, cr1, hvr1, -⟩ := id hob1.ok.sl
    rw [hvm1, hvr1]
    have hbw2 := below_trans (below_trans hbZ hb2) (below_alloc w2 (.cells #[.int .i64 b1.limit, .slice Am1 b1.mem.length cm1, .slice Ar1 b1.runs.length cr1] 25))
    have HL0 := Lib.hid ((HJ0.out.below hb2).alloc (.cells #[.int .i64 b1.limit, .slice Am1 b1.mem.length cm1, .slice Ar1 b1.runs.length cr1] 25))
    have HL1 := Lib.hid ((HJ1.out.below hb2).alloc (.cells #[.int .i64 b1.limit, .slice Am1 b1.mem.length cm1, .slice Ar1 b1.runs.length cr1] 25))
    have HL7 := Lib.hid ((HJ7.out.below hb2).alloc (.cells #[.int .i64 b1.limit, .slice Am1 b1.mem.length cm1, .slice Ar1 b1.runs.length cr1] 25))
    have HL9 := Lib.hid ((HJ9.out.below hb2).alloc (.cells #[.int .i64 b1.limit, .slice Am1 b1.mem.length cm1, .slice Ar1 b1.runs.length cr1] 25))
    have HL11 := Lib.hid (Blk.new w2 25 #[.int .i64 b1.limit, .slice Am1 b1.mem.length cm1, .slice Ar1 b1.runs.length cr1])
    have HO1 := Lib.hid (hob1.below (below_alloc w2 (.cells #[.int .i64 b1.limit, .slice Am1 b1.mem.length cm1, .slice Ar1 b1.runs.length cr1] 25)))
    have HOFF := Lib.hid (fun (o : Nat) (h : w2.heap.size ≤ o) => hob1.off h)
    have HBU1 := Lib.hid hbu1
    have HV1 := Lib.hid hvm1
    have HV2 := Lib.hid hvr1
    have HCX := Lib.hid (HRC.out _ hbw2)
    clear y0 y1 y2 x0 x1 x2 x3 x4 hob1 hvm1 hvr1 hbu1 hb2 HJ0 HJ1 HJ7 HJ9
    have y0 := HL0.out.cell 0 _ rfl
    have y1 := HL0.out.cell 1 _ rfl
    have y2 := HL0.out.cell 2 _ rfl
    go_wp2_with fail
    refine HCX.out.mono ?_
    rintro e w3 ⟨rfl, hb3⟩
    have hbw3 := below_trans hbw2 hb3
    have HM0 := Lib.hid (HL0.out.below hb3)
    have HM1 := Lib.hid (HL1.out.below hb3)
    have HM7 := Lib.hid (HL7.out.below hb3)
    have HM9 := Lib.hid (HL9.out.below hb3)
    have HM11 := Lib.hid (HL11.out.below hb3)
    have HO2 := Lib.hid (HO1.out.below hb3)
    clear y0 y1 y2 HL0 HL1 HL7 HL9 HL11 HO1 hb3 HCX hbw2
    by_cases hz : ck = 0
    · have HG := Lib.hid (HGD.out.1 hz)
      have HR2 := Lib.hid (HR.out.trans (if_neg (fun h => h hz)))
      subst hz
      have y0 := HM0.out.cell 0 _ rfl
      have y1 := HM0.out.cell 1 _ rfl
      have y2 := HM0.out.cell 2 _ rfl
      have x0 := HM1.out.cell 0 _ rfl
      have x1 := HM1.out.cell 1 _ rfl
      have x2 := HM1.out.cell 2 _ rfl
      have x3 := HM1.out.cell 3 _ rfl
      have x4 := HM1.out.cell 4 _ rfl
      have HPX := Lib.hid (HPE.out HG.out _ hbw3)
      go_wp2_with fail
      refine HPX.out.mono ?_
      rintro e w4 ⟨rfl, hb4⟩
      have hbw4 := below_trans hbw3 hb4
      have HN0 := Lib.hid (HM0.out.below hb4)
      have HN1 := Lib.hid (HM1.out.below hb4)
      have HN7 := Lib.hid (HM7.out.below hb4)
      have HN9 := Lib.hid (HM9.out.below hb4)
      have HN11 := Lib.hid (HM11.out.below hb4)
      have HO3 := Lib.hid (HO2.out.below hb4)
      clear y0 y1 y2 x0 x1 x2 x3 x4 HM0 HM1 HM7 HM9 HM11 HO2 hb4 HPX hbw3
      by_cases hp : pe = 0
      · have HNI := Lib.hid (HPZ.out hp)
        have HR3 := Lib.hid (HR2.out.trans (if_neg (fun h => h hp)))
        subst hp
        have l0 := HN0.out.lt
        have l7 := HN7.out.lt
        have l9 := HN9.out.lt
        have l11 := HN11.out.lt
        have hbw5 := below_trans hbw4 (below_alloc w4 (.cells #[.int .i64 0, .slice none 0 0, .slice none 0 0] 25))
        have HP0 := Lib.hid (HN0.out.alloc (.cells #[.int .i64 0, .slice none 0 0, .slice none 0 0] 25))
        have HP1 := Lib.hid (HN1.out.alloc (.cells #[.int .i64 0, .slice none 0 0, .slice none 0 0] 25))
        have HP7 := Lib.hid (HN7.out.alloc (.cells #[.int .i64 0, .slice none 0 0, .slice none 0 0] 25))
        have HP9 := Lib.hid (HN9.out.alloc (.cells #[.int .i64 0, .slice none 0 0, .slice none 0 0] 25))
        have HP11 := Lib.hid (HN11.out.alloc (.cells #[.int .i64 0, .slice none 0 0, .slice none 0 0] 25))
        have HP14 := Lib.hid (Blk.new w4 25 #[.int .i64 0, .slice none 0 0, .slice none 0 0])
        have HO4 := Lib.hid (HO3.out.below (below_alloc w4 (.cells #[.int .i64 0, .slice none 0 0, .slice none 0 0] 25)))
        have HF1 := Lib.hid (HOFF.out _ (Nat.le_of_lt l11))
        have y0 := HP0.out.cell 0 _ rfl
        have y1 := HP0.out.cell 1 _ rfl
        have y2 := HP0.out.cell 2 _ rfl
        have x0 := HP1.out.cell 0 _ rfl
        have x1 := HP1.out.cell 1 _ rfl
        have x2 := HP1.out.cell 2 _ rfl
        have x3 := HP1.out.cell 3 _ rfl
        have x4 := HP1.out.cell 4 _ rfl
        have HIN := Lib.hid (HPI.out HG.out HNI.out _ hbw5)
        clear HN0 HN1 HN7 HN9 HN11 HO3 hbw4
        go_wp2_with fail
        refine HIN.out.mono ?_
        rintro e w6 ⟨b2, rfl, hob2, hbu2, hb6⟩
        obtain ⟨Am2, cm2, hvm2, -⟩ := id hob2.ok.mem.sl
        obtain ⟨Ar2, cr2, hvr2, -⟩ := id hob2.ok.sl
        rw [hvm2, hvr2]
        have K14 := HP14.out.below hb6
        have c0 := K14.cell 0 _ rfl
        have c1 := K14.cell 1 _ rfl
        have c2 := K14.cell 2 _ rfl
        have g0 := K14.free 0
        have g1 := K14.free 1
        have g2 := K14.free 2
        have HQ0 := Lib.hid ((((HP0.out.below hb6).far (p := ⟨w4.heap.size, 0, none⟩) (by show w.heap.size ≠ w4.heap.size; omega) (.int .i64 b2.limit)).far (p := ⟨w4.heap.size, 1, none⟩) (by show w.heap.size ≠ w4.heap.size; omega) (.slice Am2 b2.mem.length cm2)).far (p := ⟨w4.heap.size, 2, none⟩) (by show w.heap.size ≠ w4.heap.size; omega) (.slice Ar2 b2.runs.length cr2))
        have HQ7 := Lib.hid ((((HP7.out.below hb6).far (p := ⟨w4.heap.size, 0, none⟩) (by show w1.heap.size ≠ w4.heap.size; omega) (.int .i64 b2.limit)).far (p := ⟨w4.heap.size, 1, none⟩) (by show w1.heap.size ≠ w4.heap.size; omega) (.slice Am2 b2.mem.length cm2)).far (p := ⟨w4.heap.size, 2, none⟩) (by show w1.heap.size ≠ w4.heap.size; omega) (.slice Ar2 b2.runs.length cr2))
        have HQ9 := Lib.hid ((((HP9.out.below hb6).far (p := ⟨w4.heap.size, 0, none⟩) (by show w1.heap.size + 1 ≠ w4.heap.size; omega) (.int .i64 b2.limit)).far (p := ⟨w4.heap.size, 1, none⟩) (by show w1.heap.size + 1 ≠ w4.heap.size; omega) (.slice Am2 b2.mem.length cm2)).far (p := ⟨w4.heap.size, 2, none⟩) (by show w1.heap.size + 1 ≠ w4.heap.size; omega) (.slice Ar2 b2.runs.length cr2))
        have HQ11 := Lib.hid ((((HP11.out.below hb6).far (p := ⟨w4.heap.size, 0, none⟩) (by show w2.heap.size ≠ w4.heap.size; omega) (.int .i64 b2.limit)).far (p := ⟨w4.heap.size, 1, none⟩) (by show w2.heap.size ≠ w4.heap.size; omega) (.slice Am2 b2.mem.length cm2)).far (p := ⟨w4.heap.size, 2, none⟩) (by show w2.heap.size ≠ w4.heap.size; omega) (.slice Ar2 b2.runs.length cr2))
        have HQ14 := Lib.hid (((K14.set_ 0 (.int .i64 b2.limit)).set_ 1 (.slice Am2 b2.mem.length cm2)).set_ 2 (.slice Ar2 b2.runs.length cr2))
        have hq : ∀ i, w.heap.size ≤ (⟨w4.heap.size, i, none⟩ : Addr).block := fun i => by show w.heap.size ≤ w4.heap.size; omega
        have hpp : ∀ i, (⟨w4.heap.size, i, none⟩ : Addr).block < (w4.alloc (.cells #[.int .i64 0, .slice none 0 0, .slice none 0 0] 25)).heap.size := fun i => by simp
        have hbW := (((below_trans hbw5 hb6).setCell (hq 0) (.int .i64 b2.limit)).setCell (hq 1) (.slice Am2 b2.mem.length cm2)).setCell (hq 2) (.slice Ar2 b2.runs.length cr2)
        have HW2 := Lib.hid (((hob2.setFar (hpp 0) (.int .i64 b2.limit)).setFar (hpp 1) (.slice Am2 b2.mem.length cm2)).setFar (hpp 2) (.slice Ar2 b2.runs.length cr2)).ok
        have HW1 := Lib.hid ((((HO4.out.below hb6).setOff (p := ⟨w4.heap.size, 0, none⟩) HF1.out (.int .i64 b2.limit)).setOff (p := ⟨w4.heap.size, 1, none⟩) HF1.out (.slice Am2 b2.mem.length cm2)).setOff (p := ⟨w4.heap.size, 2, none⟩) HF1.out (.slice Ar2 b2.runs.length cr2)).ok
        have HEQ : Hid (b1.bu = b2.bu) := Lib.hid (by rw [HBU1.out, HR3.out, hbu2])
        have HRC2 : Hid (R.2 = 0) := Lib.hid (by rw [HR3.out])
        rw [HRC2.out]
        have hVM2 := Lib.hid hvm2
        have hVR2 := Lib.hid hvr2
        clear y0 y1 y2 x0 x1 x2 x3 x4 hob2 hvm2 hvr2 hbu2 hq hpp K14 hb6 HP0 HP1 HP7 HP9 HP11 HP14 HO4 hbw5 HIN
        go_wp2_with fail
        have HVM2 := hVM2
        have HVR2 := hVR2
        obtain ⟨WW, hWW⟩ : ∃ WW, ((w6.setCell ⟨w4.heap.size, 0, none⟩ (.int .i64 b2.limit)).setCell ⟨w4.heap.size, 1, none⟩ (.slice Am2 b2.mem.length cm2)).setCell ⟨w4.heap.size, 2, none⟩ (.slice Ar2 b2.runs.length cr2) = WW := ⟨_, rfl⟩
        rw [hWW] at HQ0 HQ7 HQ9 HQ11 HQ14 hbW HW1 HW2 ⊢
        clear hWW
        have HSA := Lib.hid (fun v => sameBuffers_any (oB 0) (oB 0) v (oB_ok _ _) (oB_ok _ _) rfl)
        unfold Buf.agg' oB at HSA
        dsimp only at HSA
        have HSB := Lib.hid (fun v (h : Below WW.heap.size WW v) => sameBuffers_any b1 b2 v (HW1.out.below h) (HW2.out.below h) HEQ.out)
        unfold Buf.agg' at HSB
        rw [HV1.out, HV2.out, HVM2.out, HVR2.out] at HSB
        have hbv := hbW.drew
        have hcv : Below WW.heap.size WW WW.drew := (Below.refl _ _).drew
        have z : WW.drew.cell? ⟨w1.heap.size, 0, none⟩ = some (.int .i64 0) ∧ WW.drew.cell? ⟨w1.heap.size, 1, none⟩ = some (.slice none 0 0) ∧ WW.drew.cell? ⟨w1.heap.size, 2, none⟩ = some (.slice none 0 0) ∧ WW.drew.cell? ⟨w1.heap.size + 1, 0, none⟩ = some (.int .i64 0) ∧ WW.drew.cell? ⟨w1.heap.size + 1, 1, none⟩ = some (.slice none 0 0) ∧ WW.drew.cell? ⟨w1.heap.size + 1, 2, none⟩ = some (.slice none 0 0) ∧ WW.drew.cell? ⟨w.heap.size, 0, none⟩ = some (.int .i64 b.limit) ∧ WW.drew.cell? ⟨w.heap.size, 1, none⟩ = some (.slice Av b.mem.length cv) ∧ WW.drew.cell? ⟨w.heap.size, 2, none⟩ = some (.slice Ar b.runs.length cr) ∧ WW.drew.cell? ⟨w2.heap.size, 0, none⟩ = some (.int .i64 b1.limit) ∧ WW.drew.cell? ⟨w2.heap.size, 1, none⟩ = some (.slice Am1 b1.mem.length cm1) ∧ WW.drew.cell? ⟨w2.heap.size, 2, none⟩ = some (.slice Ar1 b1.runs.length cr1) ∧ WW.drew.cell? ⟨w4.heap.size, 0, none⟩ = some (.int .i64 b2.limit) ∧ WW.drew.cell? ⟨w4.heap.size, 1, none⟩ = some (.slice Am2 b2.mem.length cm2) ∧ WW.drew.cell? ⟨w4.heap.size, 2, none⟩ = some (.slice Ar2 b2.runs.length cr2) := And.intro (HQ7.out.cell 0 _ rfl) (And.intro (HQ7.out.cell 1 _ rfl) (And.intro (HQ7.out.cell 2 _ rfl) (And.intro (HQ9.out.cell 0 _ rfl) (And.intro (HQ9.out.cell 1 _ rfl) (And.intro (HQ9.out.cell 2 _ rfl) (And.intro (HQ0.out.cell 0 _ rfl) (And.intro (HQ0.out.cell 1 _ rfl) (And.intro (HQ0.out.cell 2 _ rfl) (And.intro (HQ11.out.cell 0 _ rfl) (And.intro (HQ11.out.cell 1 _ rfl) (And.intro (HQ11.out.cell 2 _ rfl) (And.intro (HQ14.out.cell 0 _ rfl) (And.intro (HQ14.out.cell 1 _ rfl) (HQ14.out.cell 2 _ rfl))))))))))))))
        go_region_held3 (fun w' => w'.cell? ⟨w1.heap.size, 0, none⟩ = some (.int .i64 0) ∧ w'.cell? ⟨w1.heap.size, 1, none⟩ = some (.slice none 0 0) ∧ w'.cell? ⟨w1.heap.size, 2, none⟩ = some (.slice none 0 0) ∧ w'.cell? ⟨w1.heap.size + 1, 0, none⟩ = some (.int .i64 0) ∧ w'.cell? ⟨w1.heap.size + 1, 1, none⟩ = some (.slice none 0 0) ∧ w'.cell? ⟨w1.heap.size + 1, 2, none⟩ = some (.slice none 0 0) ∧ w'.cell? ⟨w.heap.size, 0, none⟩ = some (.int .i64 b.limit) ∧ w'.cell? ⟨w.heap.size, 1, none⟩ = some (.slice Av b.mem.length cv) ∧ w'.cell? ⟨w.heap.size, 2, none⟩ = some (.slice Ar b.runs.length cr) ∧ w'.cell? ⟨w2.heap.size, 0, none⟩ = some (.int .i64 b1.limit) ∧ w'.cell? ⟨w2.heap.size, 1, none⟩ = some (.slice Am1 b1.mem.length cm1) ∧ w'.cell? ⟨w2.heap.size, 2, none⟩ = some (.slice Ar1 b1.runs.length cr1) ∧ w'.cell? ⟨w4.heap.size, 0, none⟩ = some (.int .i64 b2.limit) ∧ w'.cell? ⟨w4.heap.size, 1, none⟩ = some (.slice Am2 b2.mem.length cm2) ∧ w'.cell? ⟨w4.heap.size, 2, none⟩ = some (.slice Ar2 b2.runs.length cr2))
          (exact z)
          (first
            | (go_at_call 10; refine (HBG.out _ hbv).mono ?_; rintro e v5 ⟨rfl, hv5⟩; have hbv := below_trans hbv hv5; have hcv := below_trans hcv hv5; have z : v5.cell? ⟨w1.heap.size, 0, none⟩ = some (.int .i64 0) ∧ v5.cell? ⟨w1.heap.size, 1, none⟩ = some (.slice none 0 0) ∧ v5.cell? ⟨w1.heap.size, 2, none⟩ = some (.slice none 0 0) ∧ v5.cell? ⟨w1.heap.size + 1, 0, none⟩ = some (.int .i64 0) ∧ v5.cell? ⟨w1.heap.size + 1, 1, none⟩ = some (.slice none 0 0) ∧ v5.cell? ⟨w1.heap.size + 1, 2, none⟩ = some (.slice none 0 0) ∧ v5.cell? ⟨w.heap.size, 0, none⟩ = some (.int .i64 b.limit) ∧ v5.cell? ⟨w.heap.size, 1, none⟩ = some (.slice Av b.mem.length cv) ∧ v5.cell? ⟨w.heap.size, 2, none⟩ = some (.slice Ar b.runs.length cr) ∧ v5.cell? ⟨w2.heap.size, 0, none⟩ = some (.int .i64 b1.limit) ∧ v5.cell? ⟨w2.heap.size, 1, none⟩ = some (.slice Am1 b1.mem.length cm1) ∧ v5.cell? ⟨w2.heap.size, 2, none⟩ = some (.slice Ar1 b1.runs.length cr1) ∧ v5.cell? ⟨w4.heap.size, 0, none⟩ = some (.int .i64 b2.limit) ∧ v5.cell? ⟨w4.heap.size, 1, none⟩ = some (.slice Am2 b2.mem.length cm2) ∧ v5.cell? ⟨w4.heap.size, 2, none⟩ = some (.slice Ar2 b2.runs.length cr2) := And.intro ((HQ7.out.below hcv).cell 0 _ rfl) (And.intro ((HQ7.out.below hcv).cell 1 _ rfl) (And.intro ((HQ7.out.below hcv).cell 2 _ rfl) (And.intro ((HQ9.out.below hcv).cell 0 _ rfl) (And.intro ((HQ9.out.below hcv).cell 1 _ rfl) (And.intro ((HQ9.out.below hcv).cell 2 _ rfl) (And.intro ((HQ0.out.below hcv).cell 0 _ rfl) (And.intro ((HQ0.out.below hcv).cell 1 _ rfl) (And.intro ((HQ0.out.below hcv).cell 2 _ rfl) (And.intro ((HQ11.out.below hcv).cell 0 _ rfl) (And.intro ((HQ11.out.below hcv).cell 1 _ rfl) (And.intro ((HQ11.out.below hcv).cell 2 _ rfl) (And.intro ((HQ14.out.below hcv).cell 0 _ rfl) (And.intro ((HQ14.out.below hcv).cell 1 _ rfl) ((HQ14.out.below hcv).cell 2 _ rfl)))))))))))))))
            | (go_at_call 11; with_reducible refine (HSA.out _).mono ?_; rintro e v5 ⟨rfl, hv5⟩; have hbv := below_trans hbv hv5; have hcv := below_trans hcv hv5; have z : v5.cell? ⟨w1.heap.size, 0, none⟩ = some (.int .i64 0) ∧ v5.cell? ⟨w1.heap.size, 1, none⟩ = some (.slice none 0 0) ∧ v5.cell? ⟨w1.heap.size, 2, none⟩ = some (.slice none 0 0) ∧ v5.cell? ⟨w1.heap.size + 1, 0, none⟩ = some (.int .i64 0) ∧ v5.cell? ⟨w1.heap.size + 1, 1, none⟩ = some (.slice none 0 0) ∧ v5.cell? ⟨w1.heap.size + 1, 2, none⟩ = some (.slice none 0 0) ∧ v5.cell? ⟨w.heap.size, 0, none⟩ = some (.int .i64 b.limit) ∧ v5.cell? ⟨w.heap.size, 1, none⟩ = some (.slice Av b.mem.length cv) ∧ v5.cell? ⟨w.heap.size, 2, none⟩ = some (.slice Ar b.runs.length cr) ∧ v5.cell? ⟨w2.heap.size, 0, none⟩ = some (.int .i64 b1.limit) ∧ v5.cell? ⟨w2.heap.size, 1, none⟩ = some (.slice Am1 b1.mem.length cm1) ∧ v5.cell? ⟨w2.heap.size, 2, none⟩ = some (.slice Ar1 b1.runs.length cr1) ∧ v5.cell? ⟨w4.heap.size, 0, none⟩ = some (.int .i64 b2.limit) ∧ v5.cell? ⟨w4.heap.size, 1, none⟩ = some (.slice Am2 b2.mem.length cm2) ∧ v5.cell? ⟨w4.heap.size, 2, none⟩ = some (.slice Ar2 b2.runs.length cr2) := And.intro ((HQ7.out.below hcv).cell 0 _ rfl) (And.intro ((HQ7.out.below hcv).cell 1 _ rfl) (And.intro ((HQ7.out.below hcv).cell 2 _ rfl) (And.intro ((HQ9.out.below hcv).cell 0 _ rfl) (And.intro ((HQ9.out.below hcv).cell 1 _ rfl) (And.intro ((HQ9.out.below hcv).cell 2 _ rfl) (And.intro ((HQ0.out.below hcv).cell 0 _ rfl) (And.intro ((HQ0.out.below hcv).cell 1 _ rfl) (And.intro ((HQ0.out.below hcv).cell 2 _ rfl) (And.intro ((HQ11.out.below hcv).cell 0 _ rfl) (And.intro ((HQ11.out.below hcv).cell 1 _ rfl) (And.intro ((HQ11.out.below hcv).cell 2 _ rfl) (And.intro ((HQ14.out.below hcv).cell 0 _ rfl) (And.intro ((HQ14.out.below hcv).cell 1 _ rfl) ((HQ14.out.below hcv).cell 2 _ rfl)))))))))))))))
            | (go_at_call 11; with_reducible refine (HSB.out _ hcv).mono ?_; rintro e v5 ⟨rfl, hv5⟩; have hbv := below_trans hbv hv5; have hcv := below_trans hcv hv5; have z : v5.cell? ⟨w1.heap.size, 0, none⟩ = some (.int .i64 0) ∧ v5.cell? ⟨w1.heap.size, 1, none⟩ = some (.slice none 0 0) ∧ v5.cell? ⟨w1.heap.size, 2, none⟩ = some (.slice none 0 0) ∧ v5.cell? ⟨w1.heap.size + 1, 0, none⟩ = some (.int .i64 0) ∧ v5.cell? ⟨w1.heap.size + 1, 1, none⟩ = some (.slice none 0 0) ∧ v5.cell? ⟨w1.heap.size + 1, 2, none⟩ = some (.slice none 0 0) ∧ v5.cell? ⟨w.heap.size, 0, none⟩ = some (.int .i64 b.limit) ∧ v5.cell? ⟨w.heap.size, 1, none⟩ = some (.slice Av b.mem.length cv) ∧ v5.cell? ⟨w.heap.size, 2, none⟩ = some (.slice Ar b.runs.length cr) ∧ v5.cell? ⟨w2.heap.size, 0, none⟩ = some (.int .i64 b1.limit) ∧ v5.cell? ⟨w2.heap.size, 1, none⟩ = some (.slice Am1 b1.mem.length cm1) ∧ v5.cell? ⟨w2.heap.size, 2, none⟩ = some (.slice Ar1 b1.runs.length cr1) ∧ v5.cell? ⟨w4.heap.size, 0, none⟩ = some (.int .i64 b2.limit) ∧ v5.cell? ⟨w4.heap.size, 1, none⟩ = some (.slice Am2 b2.mem.length cm2) ∧ v5.cell? ⟨w4.heap.size, 2, none⟩ = some (.slice Ar2 b2.runs.length cr2) := And.intro ((HQ7.out.below hcv).cell 0 _ rfl) (And.intro ((HQ7.out.below hcv).cell 1 _ rfl) (And.intro ((HQ7.out.below hcv).cell 2 _ rfl) (And.intro ((HQ9.out.below hcv).cell 0 _ rfl) (And.intro ((HQ9.out.below hcv).cell 1 _ rfl) (And.intro ((HQ9.out.below hcv).cell 2 _ rfl) (And.intro ((HQ0.out.below hcv).cell 0 _ rfl) (And.intro ((HQ0.out.below hcv).cell 1 _ rfl) (And.intro ((HQ0.out.below hcv).cell 2 _ rfl) (And.intro ((HQ11.out.below hcv).cell 0 _ rfl) (And.intro ((HQ11.out.below hcv).cell 1 _ rfl) (And.intro ((HQ11.out.below hcv).cell 2 _ rfl) (And.intro ((HQ14.out.below hcv).cell 0 _ rfl) (And.intro ((HQ14.out.below hcv).cell 1 _ rfl) ((HQ14.out.below hcv).cell 2 _ rfl)))))))))))))))
            | (go_at_call 12; refine (HCH.out _ hbv).mono ?_; rintro e v5 ⟨rfl, hv5⟩; have hbv := below_trans hbv hv5; have hcv := below_trans hcv hv5; have z : v5.cell? ⟨w1.heap.size, 0, none⟩ = some (.int .i64 0) ∧ v5.cell? ⟨w1.heap.size, 1, none⟩ = some (.slice none 0 0) ∧ v5.cell? ⟨w1.heap.size, 2, none⟩ = some (.slice none 0 0) ∧ v5.cell? ⟨w1.heap.size + 1, 0, none⟩ = some (.int .i64 0) ∧ v5.cell? ⟨w1.heap.size + 1, 1, none⟩ = some (.slice none 0 0) ∧ v5.cell? ⟨w1.heap.size + 1, 2, none⟩ = some (.slice none 0 0) ∧ v5.cell? ⟨w.heap.size, 0, none⟩ = some (.int .i64 b.limit) ∧ v5.cell? ⟨w.heap.size, 1, none⟩ = some (.slice Av b.mem.length cv) ∧ v5.cell? ⟨w.heap.size, 2, none⟩ = some (.slice Ar b.runs.length cr) ∧ v5.cell? ⟨w2.heap.size, 0, none⟩ = some (.int .i64 b1.limit) ∧ v5.cell? ⟨w2.heap.size, 1, none⟩ = some (.slice Am1 b1.mem.length cm1) ∧ v5.cell? ⟨w2.heap.size, 2, none⟩ = some (.slice Ar1 b1.runs.length cr1) ∧ v5.cell? ⟨w4.heap.size, 0, none⟩ = some (.int .i64 b2.limit) ∧ v5.cell? ⟨w4.heap.size, 1, none⟩ = some (.slice Am2 b2.mem.length cm2) ∧ v5.cell? ⟨w4.heap.size, 2, none⟩ = some (.slice Ar2 b2.runs.length cr2) := And.intro ((HQ7.out.below hcv).cell 0 _ rfl) (And.intro ((HQ7.out.below hcv).cell 1 _ rfl) (And.intro ((HQ7.out.below hcv).cell 2 _ rfl) (And.intro ((HQ9.out.below hcv).cell 0 _ rfl) (And.intro ((HQ9.out.below hcv).cell 1 _ rfl) (And.intro ((HQ9.out.below hcv).cell 2 _ rfl) (And.intro ((HQ0.out.below hcv).cell 0 _ rfl) (And.intro ((HQ0.out.below hcv).cell 1 _ rfl) (And.intro ((HQ0.out.below hcv).cell 2 _ rfl) (And.intro ((HQ11.out.below hcv).cell 0 _ rfl) (And.intro ((HQ11.out.below hcv).cell 1 _ rfl) (And.intro ((HQ11.out.below hcv).cell 2 _ rfl) (And.intro ((HQ14.out.below hcv).cell 0 _ rfl) (And.intro ((HQ14.out.below hcv).cell 1 _ rfl) ((HQ14.out.below hcv).cell 2 _ rfl)))))))))))))))
            | (go_at_call 7; refine (HRC.out _ hbv).mono ?_; rintro e v5 ⟨rfl, hv5⟩; have hbv := below_trans hbv hv5; have hcv := below_trans hcv hv5; have z : v5.cell? ⟨w1.heap.size, 0, none⟩ = some (.int .i64 0) ∧ v5.cell? ⟨w1.heap.size, 1, none⟩ = some (.slice none 0 0) ∧ v5.cell? ⟨w1.heap.size, 2, none⟩ = some (.slice none 0 0) ∧ v5.cell? ⟨w1.heap.size + 1, 0, none⟩ = some (.int .i64 0) ∧ v5.cell? ⟨w1.heap.size + 1, 1, none⟩ = some (.slice none 0 0) ∧ v5.cell? ⟨w1.heap.size + 1, 2, none⟩ = some (.slice none 0 0) ∧ v5.cell? ⟨w.heap.size, 0, none⟩ = some (.int .i64 b.limit) ∧ v5.cell? ⟨w.heap.size, 1, none⟩ = some (.slice Av b.mem.length cv) ∧ v5.cell? ⟨w.heap.size, 2, none⟩ = some (.slice Ar b.runs.length cr) ∧ v5.cell? ⟨w2.heap.size, 0, none⟩ = some (.int .i64 b1.limit) ∧ v5.cell? ⟨w2.heap.size, 1, none⟩ = some (.slice Am1 b1.mem.length cm1) ∧ v5.cell? ⟨w2.heap.size, 2, none⟩ = some (.slice Ar1 b1.runs.length cr1) ∧ v5.cell? ⟨w4.heap.size, 0, none⟩ = some (.int .i64 b2.limit) ∧ v5.cell? ⟨w4.heap.size, 1, none⟩ = some (.slice Am2 b2.mem.length cm2) ∧ v5.cell? ⟨w4.heap.size, 2, none⟩ = some (.slice Ar2 b2.runs.length cr2) := And.intro ((HQ7.out.below hcv).cell 0 _ rfl) (And.intro ((HQ7.out.below hcv).cell 1 _ rfl) (And.intro ((HQ7.out.below hcv).cell 2 _ rfl) (And.intro ((HQ9.out.below hcv).cell 0 _ rfl) (And.intro ((HQ9.out.below hcv).cell 1 _ rfl) (And.intro ((HQ9.out.below hcv).cell 2 _ rfl) (And.intro ((HQ0.out.below hcv).cell 0 _ rfl) (And.intro ((HQ0.out.below hcv).cell 1 _ rfl) (And.intro ((HQ0.out.below hcv).cell 2 _ rfl) (And.intro ((HQ11.out.below hcv).cell 0 _ rfl) (And.intro ((HQ11.out.below hcv).cell 1 _ rfl) (And.intro ((HQ11.out.below hcv).cell 2 _ rfl) (And.intro ((HQ14.out.below hcv).cell 0 _ rfl) (And.intro ((HQ14.out.below hcv).cell 1 _ rfl) ((HQ14.out.below hcv).cell 2 _ rfl))))))))))))))))
        all_goals
          clear z
          go_wp2
          go_ret
          exact ⟨rfl, hbv⟩
      · have HR3 := Lib.hid (HR2.out.trans (if_pos hp))
        have hb0 := beqF hp
        have hpp : (pe == pe) = true := beq_self_eq_true _
        have hbW := below_trans hbw4 (below_alloc w4 (.cells #[.int .i64 0, .slice none 0 0, .slice none 0 0] 25))
        have HQ0 := Lib.hid (HN0.out.alloc (.cells #[.int .i64 0, .slice none 0 0, .slice none 0 0] 25))
        have HQ7 := Lib.hid (HN7.out.alloc (.cells #[.int .i64 0, .slice none 0 0, .slice none 0 0] 25))
        have HQ9 := Lib.hid (HN9.out.alloc (.cells #[.int .i64 0, .slice none 0 0, .slice none 0 0] 25))
        have HQ11 := Lib.hid (HN11.out.alloc (.cells #[.int .i64 0, .slice none 0 0, .slice none 0 0] 25))
        have HQ14 := Lib.hid (Blk.new w4 25 #[.int .i64 0, .slice none 0 0, .slice none 0 0])
        have HW1 := Lib.hid ((HO3.out.below (below_alloc w4 (.cells #[.int .i64 0, .slice none 0 0, .slice none 0 0] 25))).ok)
        have HW2 := Lib.hid (oB_ok 0 (w4.alloc (.cells #[.int .i64 0, .slice none 0 0, .slice none 0 0] 25)))
        have HEQ : Hid (b1.bu = (oB 0).bu) := Lib.hid (by rw [HBU1.out, HR3.out]; rfl)
        have HRC2 : Hid (R.2 = pe) := Lib.hid (by rw [HR3.out])
        rw [HRC2.out]
        clear hp HN0 HN1 HN7 HN9 HN11 HO3 hbw4
        go_wp2_with fail
        obtain ⟨WW, hWW⟩ : ∃ WW, w4.alloc (.cells #[.int .i64 0, .slice none 0 0, .slice none 0 0] 25) = WW := ⟨_, rfl⟩
        rw [hWW] at HQ0 HQ7 HQ9 HQ11 HQ14 hbW HW1 HW2 ⊢
        clear hWW
        have HSA := Lib.hid (fun v => sameBuffers_any (oB 0) (oB 0) v (oB_ok _ _) (oB_ok _ _) rfl)
        unfold Buf.agg' oB at HSA
        dsimp only at HSA
        have HSB := Lib.hid (fun v (h : Below WW.heap.size WW v) => sameBuffers_any b1 (oB 0) v (HW1.out.below h) (HW2.out.below h) HEQ.out)
        unfold Buf.agg' oB at HSB
        dsimp only at HSB
        rw [HV1.out, HV2.out] at HSB
        have hbv := hbW.drew
        have hcv : Below WW.heap.size WW WW.drew := (Below.refl _ _).drew
        have z : WW.drew.cell? ⟨w1.heap.size, 0, none⟩ = some (.int .i64 0) ∧ WW.drew.cell? ⟨w1.heap.size, 1, none⟩ = some (.slice none 0 0) ∧ WW.drew.cell? ⟨w1.heap.size, 2, none⟩ = some (.slice none 0 0) ∧ WW.drew.cell? ⟨w1.heap.size + 1, 0, none⟩ = some (.int .i64 0) ∧ WW.drew.cell? ⟨w1.heap.size + 1, 1, none⟩ = some (.slice none 0 0) ∧ WW.drew.cell? ⟨w1.heap.size + 1, 2, none⟩ = some (.slice none 0 0) ∧ WW.drew.cell? ⟨w.heap.size, 0, none⟩ = some (.int .i64 b.limit) ∧ WW.drew.cell? ⟨w.heap.size, 1, none⟩ = some (.slice Av b.mem.length cv) ∧ WW.drew.cell? ⟨w.heap.size, 2, none⟩ = some (.slice Ar b.runs.length cr) ∧ WW.drew.cell? ⟨w2.heap.size, 0, none⟩ = some (.int .i64 b1.limit) ∧ WW.drew.cell? ⟨w2.heap.size, 1, none⟩ = some (.slice Am1 b1.mem.length cm1) ∧ WW.drew.cell? ⟨w2.heap.size, 2, none⟩ = some (.slice Ar1 b1.runs.length cr1) ∧ WW.drew.cell? ⟨w4.heap.size, 0, none⟩ = some (.int .i64 0) ∧ WW.drew.cell? ⟨w4.heap.size, 1, none⟩ = some (.slice none 0 0) ∧ WW.drew.cell? ⟨w4.heap.size, 2, none⟩ = some (.slice none 0 0) := And.intro (HQ7.out.cell 0 _ rfl) (And.intro (HQ7.out.cell 1 _ rfl) (And.intro (HQ7.out.cell 2 _ rfl) (And.intro (HQ9.out.cell 0 _ rfl) (And.intro (HQ9.out.cell 1 _ rfl) (And.intro (HQ9.out.cell 2 _ rfl) (And.intro (HQ0.out.cell 0 _ rfl) (And.intro (HQ0.out.cell 1 _ rfl) (And.intro (HQ0.out.cell 2 _ rfl) (And.intro (HQ11.out.cell 0 _ rfl) (And.intro (HQ11.out.cell 1 _ rfl) (And.intro (HQ11.out.cell 2 _ rfl) (And.intro (HQ14.out.cell 0 _ rfl) (And.intro (HQ14.out.cell 1 _ rfl) (HQ14.out.cell 2 _ rfl))))))))))))))
        go_region_held3 (fun w' => w'.cell? ⟨w1.heap.size, 0, none⟩ = some (.int .i64 0) ∧ w'.cell? ⟨w1.heap.size, 1, none⟩ = some (.slice none 0 0) ∧ w'.cell? ⟨w1.heap.size, 2, none⟩ = some (.slice none 0 0) ∧ w'.cell? ⟨w1.heap.size + 1, 0, none⟩ = some (.int .i64 0) ∧ w'.cell? ⟨w1.heap.size + 1, 1, none⟩ = some (.slice none 0 0) ∧ w'.cell? ⟨w1.heap.size + 1, 2, none⟩ = some (.slice none 0 0) ∧ w'.cell? ⟨w.heap.size, 0, none⟩ = some (.int .i64 b.limit) ∧ w'.cell? ⟨w.heap.size, 1, none⟩ = some (.slice Av b.mem.length cv) ∧ w'.cell? ⟨w.heap.size, 2, none⟩ = some (.slice Ar b.runs.length cr) ∧ w'.cell? ⟨w2.heap.size, 0, none⟩ = some (.int .i64 b1.limit) ∧ w'.cell? ⟨w2.heap.size, 1, none⟩ = some (.slice Am1 b1.mem.length cm1) ∧ w'.cell? ⟨w2.heap.size, 2, none⟩ = some (.slice Ar1 b1.runs.length cr1) ∧ w'.cell? ⟨w4.heap.size, 0, none⟩ = some (.int .i64 0) ∧ w'.cell? ⟨w4.heap.size, 1, none⟩ = some (.slice none 0 0) ∧ w'.cell? ⟨w4.heap.size, 2, none⟩ = some (.slice none 0 0))
          (exact z)
          (first
            | (go_at_call 10; refine (HBG.out _ hbv).mono ?_; rintro e v5 ⟨rfl, hv5⟩; have hbv := below_trans hbv hv5; have hcv := below_trans hcv hv5; have z : v5.cell? ⟨w1.heap.size, 0, none⟩ = some (.int .i64 0) ∧ v5.cell? ⟨w1.heap.size, 1, none⟩ = some (.slice none 0 0) ∧ v5.cell? ⟨w1.heap.size, 2, none⟩ = some (.slice none 0 0) ∧ v5.cell? ⟨w1.heap.size + 1, 0, none⟩ = some (.int .i64 0) ∧ v5.cell? ⟨w1.heap.size + 1, 1, none⟩ = some (.slice none 0 0) ∧ v5.cell? ⟨w1.heap.size + 1, 2, none⟩ = some (.slice none 0 0) ∧ v5.cell? ⟨w.heap.size, 0, none⟩ = some (.int .i64 b.limit) ∧ v5.cell? ⟨w.heap.size, 1, none⟩ = some (.slice Av b.mem.length cv) ∧ v5.cell? ⟨w.heap.size, 2, none⟩ = some (.slice Ar b.runs.length cr) ∧ v5.cell? ⟨w2.heap.size, 0, none⟩ = some (.int .i64 b1.limit) ∧ v5.cell? ⟨w2.heap.size, 1, none⟩ = some (.slice Am1 b1.mem.length cm1) ∧ v5.cell? ⟨w2.heap.size, 2, none⟩ = some (.slice Ar1 b1.runs.length cr1) ∧ v5.cell? ⟨w4.heap.size, 0, none⟩ = some (.int .i64 0) ∧ v5.cell? ⟨w4.heap.size, 1, none⟩ = some (.slice none 0 0) ∧ v5.cell? ⟨w4.heap.size, 2, none⟩ = some (.slice none 0 0) := And.intro ((HQ7.out.below hcv).cell 0 _ rfl) (And.intro ((HQ7.out.below hcv).cell 1 _ rfl) (And.intro ((HQ7.out.below hcv).cell 2 _ rfl) (And.intro ((HQ9.out.below hcv).cell 0 _ rfl) (And.intro ((HQ9.out.below hcv).cell 1 _ rfl) (And.intro ((HQ9.out.below hcv).cell 2 _ rfl) (And.intro ((HQ0.out.below hcv).cell 0 _ rfl) (And.intro ((HQ0.out.below hcv).cell 1 _ rfl) (And.intro ((HQ0.out.below hcv).cell 2 _ rfl) (And.intro ((HQ11.out.below hcv).cell 0 _ rfl) (And.intro ((HQ11.out.below hcv).cell 1 _ rfl) (And.intro ((HQ11.out.below hcv).cell 2 _ rfl) (And.intro ((HQ14.out.below hcv).cell 0 _ rfl) (And.intro ((HQ14.out.below hcv).cell 1 _ rfl) ((HQ14.out.below hcv).cell 2 _ rfl)))))))))))))))
            | (go_at_call 11; with_reducible refine (HSA.out _).mono ?_; rintro e v5 ⟨rfl, hv5⟩; have hbv := below_trans hbv hv5; have hcv := below_trans hcv hv5; have z : v5.cell? ⟨w1.heap.size, 0, none⟩ = some (.int .i64 0) ∧ v5.cell? ⟨w1.heap.size, 1, none⟩ = some (.slice none 0 0) ∧ v5.cell? ⟨w1.heap.size, 2, none⟩ = some (.slice none 0 0) ∧ v5.cell? ⟨w1.heap.size + 1, 0, none⟩ = some (.int .i64 0) ∧ v5.cell? ⟨w1.heap.size + 1, 1, none⟩ = some (.slice none 0 0) ∧ v5.cell? ⟨w1.heap.size + 1, 2, none⟩ = some (.slice none 0 0) ∧ v5.cell? ⟨w.heap.size, 0, none⟩ = some (.int .i64 b.limit) ∧ v5.cell? ⟨w.heap.size, 1, none⟩ = some (.slice Av b.mem.length cv) ∧ v5.cell? ⟨w.heap.size, 2, none⟩ = some (.slice Ar b.runs.length cr) ∧ v5.cell? ⟨w2.heap.size, 0, none⟩ = some (.int .i64 b1.limit) ∧ v5.cell? ⟨w2.heap.size, 1, none⟩ = some (.slice Am1 b1.mem.length cm1) ∧ v5.cell? ⟨w2.heap.size, 2, none⟩ = some (.slice Ar1 b1.runs.length cr1) ∧ v5.cell? ⟨w4.heap.size, 0, none⟩ = some (.int .i64 0) ∧ v5.cell? ⟨w4.heap.size, 1, none⟩ = some (.slice none 0 0) ∧ v5.cell? ⟨w4.heap.size, 2, none⟩ = some (.slice none 0 0) := And.intro ((HQ7.out.below hcv).cell 0 _ rfl) (And.intro ((HQ7.out.below hcv).cell 1 _ rfl) (And.intro ((HQ7.out.below hcv).cell 2 _ rfl) (And.intro ((HQ9.out.below hcv).cell 0 _ rfl) (And.intro ((HQ9.out.below hcv).cell 1 _ rfl) (And.intro ((HQ9.out.below hcv).cell 2 _ rfl) (And.intro ((HQ0.out.below hcv).cell 0 _ rfl) (And.intro ((HQ0.out.below hcv).cell 1 _ rfl) (And.intro ((HQ0.out.below hcv).cell 2 _ rfl) (And.intro ((HQ11.out.below hcv).cell 0 _ rfl) (And.intro ((HQ11.out.below hcv).cell 1 _ rfl) (And.intro ((HQ11.out.below hcv).cell 2 _ rfl) (And.intro ((HQ14.out.below hcv).cell 0 _ rfl) (And.intro ((HQ14.out.below hcv).cell 1 _ rfl) ((HQ14.out.below hcv).cell 2 _ rfl)))))))))))))))
            | (go_at_call 11; with_reducible refine (HSB.out _ hcv).mono ?_; rintro e v5 ⟨rfl, hv5⟩; have hbv := below_trans hbv hv5; have hcv := below_trans hcv hv5; have z : v5.cell? ⟨w1.heap.size, 0, none⟩ = some (.int .i64 0) ∧ v5.cell? ⟨w1.heap.size, 1, none⟩ = some (.slice none 0 0) ∧ v5.cell? ⟨w1.heap.size, 2, none⟩ = some (.slice none 0 0) ∧ v5.cell? ⟨w1.heap.size + 1, 0, none⟩ = some (.int .i64 0) ∧ v5.cell? ⟨w1.heap.size + 1, 1, none⟩ = some (.slice none 0 0) ∧ v5.cell? ⟨w1.heap.size + 1, 2, none⟩ = some (.slice none 0 0) ∧ v5.cell? ⟨w.heap.size, 0, none⟩ = some (.int .i64 b.limit) ∧ v5.cell? ⟨w.heap.size, 1, none⟩ = some (.slice Av b.mem.length cv) ∧ v5.cell? ⟨w.heap.size, 2, none⟩ = some (.slice Ar b.runs.length cr) ∧ v5.cell? ⟨w2.heap.size, 0, none⟩ = some (.int .i64 b1.limit) ∧ v5.cell? ⟨w2.heap.size, 1, none⟩ = some (.slice Am1 b1.mem.length cm1) ∧ v5.cell? ⟨w2.heap.size, 2, none⟩ = some (.slice Ar1 b1.runs.length cr1) ∧ v5.cell? ⟨w4.heap.size, 0, none⟩ = some (.int .i64 0) ∧ v5.cell? ⟨w4.heap.size, 1, none⟩ = some (.slice none 0 0) ∧ v5.cell? ⟨w4.heap.size, 2, none⟩ = some (.slice none 0 0) := And.intro ((HQ7.out.below hcv).cell 0 _ rfl) (And.intro ((HQ7.out.below hcv).cell 1 _ rfl) (And.intro ((HQ7.out.below hcv).cell 2 _ rfl) (And.intro ((HQ9.out.below hcv).cell 0 _ rfl) (And.intro ((HQ9.out.below hcv).cell 1 _ rfl) (And.intro ((HQ9.out.below hcv).cell 2 _ rfl) (And.intro ((HQ0.out.below hcv).cell 0 _ rfl) (And.intro ((HQ0.out.below hcv).cell 1 _ rfl) (And.intro ((HQ0.out.below hcv).cell 2 _ rfl) (And.intro ((HQ11.out.below hcv).cell 0 _ rfl) (And.intro ((HQ11.out.below hcv).cell 1 _ rfl) (And.intro ((HQ11.out.below hcv).cell 2 _ rfl) (And.intro ((HQ14.out.below hcv).cell 0 _ rfl) (And.intro ((HQ14.out.below hcv).cell 1 _ rfl) ((HQ14.out.below hcv).cell 2 _ rfl)))))))))))))))
            | (go_at_call 12; refine (HCH.out _ hbv).mono ?_; rintro e v5 ⟨rfl, hv5⟩; have hbv := below_trans hbv hv5; have hcv := below_trans hcv hv5; have z : v5.cell? ⟨w1.heap.size, 0, none⟩ = some (.int .i64 0) ∧ v5.cell? ⟨w1.heap.size, 1, none⟩ = some (.slice none 0 0) ∧ v5.cell? ⟨w1.heap.size, 2, none⟩ = some (.slice none 0 0) ∧ v5.cell? ⟨w1.heap.size + 1, 0, none⟩ = some (.int .i64 0) ∧ v5.cell? ⟨w1.heap.size + 1, 1, none⟩ = some (.slice none 0 0) ∧ v5.cell? ⟨w1.heap.size + 1, 2, none⟩ = some (.slice none 0 0) ∧ v5.cell? ⟨w.heap.size, 0, none⟩ = some (.int .i64 b.limit) ∧ v5.cell? ⟨w.heap.size, 1, none⟩ = some (.slice Av b.mem.length cv) ∧ v5.cell? ⟨w.heap.size, 2, none⟩ = some (.slice Ar b.runs.length cr) ∧ v5.cell? ⟨w2.heap.size, 0, none⟩ = some (.int .i64 b1.limit) ∧ v5.cell? ⟨w2.heap.size, 1, none⟩ = some (.slice Am1 b1.mem.length cm1) ∧ v5.cell? ⟨w2.heap.size, 2, none⟩ = some (.slice Ar1 b1.runs.length cr1) ∧ v5.cell? ⟨w4.heap.size, 0, none⟩ = some (.int .i64 0) ∧ v5.cell? ⟨w4.heap.size, 1, none⟩ = some (.slice none 0 0) ∧ v5.cell? ⟨w4.heap.size, 2, none⟩ = some (.slice none 0 0) := And.intro ((HQ7.out.below hcv).cell 0 _ rfl) (And.intro ((HQ7.out.below hcv).cell 1 _ rfl) (And.intro ((HQ7.out.below hcv).cell 2 _ rfl) (And.intro ((HQ9.out.below hcv).cell 0 _ rfl) (And.intro ((HQ9.out.below hcv).cell 1 _ rfl) (And.intro ((HQ9.out.below hcv).cell 2 _ rfl) (And.intro ((HQ0.out.below hcv).cell 0 _ rfl) (And.intro ((HQ0.out.below hcv).cell 1 _ rfl) (And.intro ((HQ0.out.below hcv).cell 2 _ rfl) (And.intro ((HQ11.out.below hcv).cell 0 _ rfl) (And.intro ((HQ11.out.below hcv).cell 1 _ rfl) (And.intro ((HQ11.out.below hcv).cell 2 _ rfl) (And.intro ((HQ14.out.below hcv).cell 0 _ rfl) (And.intro ((HQ14.out.below hcv).cell 1 _ rfl) ((HQ14.out.below hcv).cell 2 _ rfl)))))))))))))))
            | (go_at_call 7; refine (HRC.out _ hbv).mono ?_; rintro e v5 ⟨rfl, hv5⟩; have hbv := below_trans hbv hv5; have hcv := below_trans hcv hv5; have z : v5.cell? ⟨w1.heap.size, 0, none⟩ = some (.int .i64 0) ∧ v5.cell? ⟨w1.heap.size, 1, none⟩ = some (.slice none 0 0) ∧ v5.cell? ⟨w1.heap.size, 2, none⟩ = some (.slice none 0 0) ∧ v5.cell? ⟨w1.heap.size + 1, 0, none⟩ = some (.int .i64 0) ∧ v5.cell? ⟨w1.heap.size + 1, 1, none⟩ = some (.slice none 0 0) ∧ v5.cell? ⟨w1.heap.size + 1, 2, none⟩ = some (.slice none 0 0) ∧ v5.cell? ⟨w.heap.size, 0, none⟩ = some (.int .i64 b.limit) ∧ v5.cell? ⟨w.heap.size, 1, none⟩ = some (.slice Av b.mem.length cv) ∧ v5.cell? ⟨w.heap.size, 2, none⟩ = some (.slice Ar b.runs.length cr) ∧ v5.cell? ⟨w2.heap.size, 0, none⟩ = some (.int .i64 b1.limit) ∧ v5.cell? ⟨w2.heap.size, 1, none⟩ = some (.slice Am1 b1.mem.length cm1) ∧ v5.cell? ⟨w2.heap.size, 2, none⟩ = some (.slice Ar1 b1.runs.length cr1) ∧ v5.cell? ⟨w4.heap.size, 0, none⟩ = some (.int .i64 0) ∧ v5.cell? ⟨w4.heap.size, 1, none⟩ = some (.slice none 0 0) ∧ v5.cell? ⟨w4.heap.size, 2, none⟩ = some (.slice none 0 0) := And.intro ((HQ7.out.below hcv).cell 0 _ rfl) (And.intro ((HQ7.out.below hcv).cell 1 _ rfl) (And.intro ((HQ7.out.below hcv).cell 2 _ rfl) (And.intro ((HQ9.out.below hcv).cell 0 _ rfl) (And.intro ((HQ9.out.below hcv).cell 1 _ rfl) (And.intro ((HQ9.out.below hcv).cell 2 _ rfl) (And.intro ((HQ0.out.below hcv).cell 0 _ rfl) (And.intro ((HQ0.out.below hcv).cell 1 _ rfl) (And.intro ((HQ0.out.below hcv).cell 2 _ rfl) (And.intro ((HQ11.out.below hcv).cell 0 _ rfl) (And.intro ((HQ11.out.below hcv).cell 1 _ rfl) (And.intro ((HQ11.out.below hcv).cell 2 _ rfl) (And.intro ((HQ14.out.below hcv).cell 0 _ rfl) (And.intro ((HQ14.out.below hcv).cell 1 _ rfl) ((HQ14.out.below hcv).cell 2 _ rfl))))))))))))))))
        all_goals
          clear z
          go_wp2
          go_ret
          exact ⟨rfl, hbv⟩
    · have HR3 := Lib.hid (HR.out.trans (if_pos hz))
      have hb0 := beqF hz
      have hpp : (ck == ck) = true := beq_self_eq_true _
      have hbW := below_trans hbw3 (below_alloc w3 (.cells #[.int .i64 0, .slice none 0 0, .slice none 0 0] 25))
      have HQ0 := Lib.hid (HM0.out.alloc (.cells #[.int .i64 0, .slice none 0 0, .slice none 0 0] 25))
      have HQ7 := Lib.hid (HM7.out.alloc (.cells #[.int .i64 0, .slice none 0 0, .slice none 0 0] 25))
      have HQ9 := Lib.hid (HM9.out.alloc (.cells #[.int .i64 0, .slice none 0 0, .slice none 0 0] 25))
      have HQ11 := Lib.hid (HM11.out.alloc (.cells #[.int .i64 0, .slice none 0 0, .slice none 0 0] 25))
      have HQ14 := Lib.hid (Blk.new w3 25 #[.int .i64 0, .slice none 0 0, .slice none 0 0])
      have HW1 := Lib.hid ((HO2.out.below (below_alloc w3 (.cells #[.int .i64 0, .slice none 0 0, .slice none 0 0] 25))).ok)
      have HW2 := Lib.hid (oB_ok 0 (w3.alloc (.cells #[.int .i64 0, .slice none 0 0, .slice none 0 0] 25)))
      have HEQ : Hid (b1.bu = (oB 0).bu) := Lib.hid (by rw [HBU1.out, HR3.out]; rfl)
      have HRC2 : Hid (R.2 = ck) := Lib.hid (by rw [HR3.out])
      rw [HRC2.out]
      clear hz HM0 HM1 HM7 HM9 HM11 HO2 hbw3
      go_wp2_with fail
      obtain ⟨WW, hWW⟩ : ∃ WW, w3.alloc (.cells #[.int .i64 0, .slice none 0 0, .slice none 0 0] 25) = WW := ⟨_, rfl⟩
      rw [hWW] at HQ0 HQ7 HQ9 HQ11 HQ14 hbW HW1 HW2 ⊢
      clear hWW
      have HSA := Lib.hid (fun v => sameBuffers_any (oB 0) (oB 0) v (oB_ok _ _) (oB_ok _ _) rfl)
      unfold Buf.agg' oB at HSA
      dsimp only at HSA
      have HSB := Lib.hid (fun v (h : Below WW.heap.size WW v) => sameBuffers_any b1 (oB 0) v (HW1.out.below h) (HW2.out.below h) HEQ.out)
      unfold Buf.agg' oB at HSB
      dsimp only at HSB
      rw [HV1.out, HV2.out] at HSB
      have hbv := hbW.drew
      have hcv : Below WW.heap.size WW WW.drew := (Below.refl _ _).drew
      have z : WW.drew.cell? ⟨w1.heap.size, 0, none⟩ = some (.int .i64 0) ∧ WW.drew.cell? ⟨w1.heap.size, 1, none⟩ = some (.slice none 0 0) ∧ WW.drew.cell? ⟨w1.heap.size, 2, none⟩ = some (.slice none 0 0) ∧ WW.drew.cell? ⟨w1.heap.size + 1, 0, none⟩ = some (.int .i64 0) ∧ WW.drew.cell? ⟨w1.heap.size + 1, 1, none⟩ = some (.slice none 0 0) ∧ WW.drew.cell? ⟨w1.heap.size + 1, 2, none⟩ = some (.slice none 0 0) ∧ WW.drew.cell? ⟨w.heap.size, 0, none⟩ = some (.int .i64 b.limit) ∧ WW.drew.cell? ⟨w.heap.size, 1, none⟩ = some (.slice Av b.mem.length cv) ∧ WW.drew.cell? ⟨w.heap.size, 2, none⟩ = some (.slice Ar b.runs.length cr) ∧ WW.drew.cell? ⟨w2.heap.size, 0, none⟩ = some (.int .i64 b1.limit) ∧ WW.drew.cell? ⟨w2.heap.size, 1, none⟩ = some (.slice Am1 b1.mem.length cm1) ∧ WW.drew.cell? ⟨w2.heap.size, 2, none⟩ = some (.slice Ar1 b1.runs.length cr1) ∧ WW.drew.cell? ⟨w3.heap.size, 0, none⟩ = some (.int .i64 0) ∧ WW.drew.cell? ⟨w3.heap.size, 1, none⟩ = some (.slice none 0 0) ∧ WW.drew.cell? ⟨w3.heap.size, 2, none⟩ = some (.slice none 0 0) := And.intro (HQ7.out.cell 0 _ rfl) (And.intro (HQ7.out.cell 1 _ rfl) (And.intro (HQ7.out.cell 2 _ rfl) (And.intro (HQ9.out.cell 0 _ rfl) (And.intro (HQ9.out.cell 1 _ rfl) (And.intro (HQ9.out.cell 2 _ rfl) (And.intro (HQ0.out.cell 0 _ rfl) (And.intro (HQ0.out.cell 1 _ rfl) (And.intro (HQ0.out.cell 2 _ rfl) (And.intro (HQ11.out.cell 0 _ rfl) (And.intro (HQ11.out.cell 1 _ rfl) (And.intro (HQ11.out.cell 2 _ rfl) (And.intro (HQ14.out.cell 0 _ rfl) (And.intro (HQ14.out.cell 1 _ rfl) (HQ14.out.cell 2 _ rfl))))))))))))))
      go_region_held3 (fun w' => w'.cell? ⟨w1.heap.size, 0, none⟩ = some (.int .i64 0) ∧ w'.cell? ⟨w1.heap.size, 1, none⟩ = some (.slice none 0 0) ∧ w'.cell? ⟨w1.heap.size, 2, none⟩ = some (.slice none 0 0) ∧ w'.cell? ⟨w1.heap.size + 1, 0, none⟩ = some (.int .i64 0) ∧ w'.cell? ⟨w1.heap.size + 1, 1, none⟩ = some (.slice none 0 0) ∧ w'.cell? ⟨w1.heap.size + 1, 2, none⟩ = some (.slice none 0 0) ∧ w'.cell? ⟨w.heap.size, 0, none⟩ = some (.int .i64 b.limit) ∧ w'.cell? ⟨w.heap.size, 1, none⟩ = some (.slice Av b.mem.length cv) ∧ w'.cell? ⟨w.heap.size, 2, none⟩ = some (.slice Ar b.runs.length cr) ∧ w'.cell? ⟨w2.heap.size, 0, none⟩ = some (.int .i64 b1.limit) ∧ w'.cell? ⟨w2.heap.size, 1, none⟩ = some (.slice Am1 b1.mem.length cm1) ∧ w'.cell? ⟨w2.heap.size, 2, none⟩ = some (.slice Ar1 b1.runs.length cr1) ∧ w'.cell? ⟨w3.heap.size, 0, none⟩ = some (.int .i64 0) ∧ w'.cell? ⟨w3.heap.size, 1, none⟩ = some (.slice none 0 0) ∧ w'.cell? ⟨w3.heap.size, 2, none⟩ = some (.slice none 0 0))
        (exact z)
        (first
          | (go_at_call 10; refine (HBG.out _ hbv).mono ?_; rintro e v5 ⟨rfl, hv5⟩; have hbv := below_trans hbv hv5; have hcv := below_trans hcv hv5; have z : v5.cell? ⟨w1.heap.size, 0, none⟩ = some (.int .i64 0) ∧ v5.cell? ⟨w1.heap.size, 1, none⟩ = some (.slice none 0 0) ∧ v5.cell? ⟨w1.heap.size, 2, none⟩ = some (.slice none 0 0) ∧ v5.cell? ⟨w1.heap.size + 1, 0, none⟩ = some (.int .i64 0) ∧ v5.cell? ⟨w1.heap.size + 1, 1, none⟩ = some (.slice none 0 0) ∧ v5.cell? ⟨w1.heap.size + 1, 2, none⟩ = some (.slice none 0 0) ∧ v5.cell? ⟨w.heap.size, 0, none⟩ = some (.int .i64 b.limit) ∧ v5.cell? ⟨w.heap.size, 1, none⟩ = some (.slice Av b.mem.length cv) ∧ v5.cell? ⟨w.heap.size, 2, none⟩ = some (.slice Ar b.runs.length cr) ∧ v5.cell? ⟨w2.heap.size, 0, none⟩ = some (.int .i64 b1.limit) ∧ v5.cell? ⟨w2.heap.size, 1, none⟩ = some (.slice Am1 b1.mem.length cm1) ∧ v5.cell? ⟨w2.heap.size, 2, none⟩ = some (.slice Ar1 b1.runs.length cr1) ∧ v5.cell? ⟨w3.heap.size, 0, none⟩ = some (.int .i64 0) ∧ v5.cell? ⟨w3.heap.size, 1, none⟩ = some (.slice none 0 0) ∧ v5.cell? ⟨w3.heap.size, 2, none⟩ = some (.slice none 0 0) := And.intro ((HQ7.out.below hcv).cell 0 _ rfl) (And.intro ((HQ7.out.below hcv).cell 1 _ rfl) (And.intro ((HQ7.out.below hcv).cell 2 _ rfl) (And.intro ((HQ9.out.below hcv).cell 0 _ rfl) (And.intro ((HQ9.out.below hcv).cell 1 _ rfl) (And.intro ((HQ9.out.below hcv).cell 2 _ rfl) (And.intro ((HQ0.out.below hcv).cell 0 _ rfl) (And.intro ((HQ0.out.below hcv).cell 1 _ rfl) (And.intro ((HQ0.out.below hcv).cell 2 _ rfl) (And.intro ((HQ11.out.below hcv).cell 0 _ rfl) (And.intro ((HQ11.out.below hcv).cell 1 _ rfl) (And.intro ((HQ11.out.below hcv).cell 2 _ rfl) (And.intro ((HQ14.out.below hcv).cell 0 _ rfl) (And.intro ((HQ14.out.below hcv).cell 1 _ rfl) ((HQ14.out.below hcv).cell 2 _ rfl)))))))))))))))
          | (go_at_call 11; with_reducible refine (HSA.out _).mono ?_; rintro e v5 ⟨rfl, hv5⟩; have hbv := below_trans hbv hv5; have hcv := below_trans hcv hv5; have z : v5.cell? ⟨w1.heap.size, 0, none⟩ = some (.int .i64 0) ∧ v5.cell? ⟨w1.heap.size, 1, none⟩ = some (.slice none 0 0) ∧ v5.cell? ⟨w1.heap.size, 2, none⟩ = some (.slice none 0 0) ∧ v5.cell? ⟨w1.heap.size + 1, 0, none⟩ = some (.int .i64 0) ∧ v5.cell? ⟨w1.heap.size + 1, 1, none⟩ = some (.slice none 0 0) ∧ v5.cell? ⟨w1.heap.size + 1, 2, none⟩ = some (.slice none 0 0) ∧ v5.cell? ⟨w.heap.size, 0, none⟩ = some (.int .i64 b.limit) ∧ v5.cell? ⟨w.heap.size, 1, none⟩ = some (.slice Av b.mem.length cv) ∧ v5.cell? ⟨w.heap.size, 2, none⟩ = some (.slice Ar b.runs.length cr) ∧ v5.cell? ⟨w2.heap.size, 0, none⟩ = some (.int .i64 b1.limit) ∧ v5.cell? ⟨w2.heap.size, 1, none⟩ = some (.slice Am1 b1.mem.length cm1) ∧ v5.cell? ⟨w2.heap.size, 2, none⟩ = some (.slice Ar1 b1.runs.length cr1) ∧ v5.cell? ⟨w3.heap.size, 0, none⟩ = some (.int .i64 0) ∧ v5.cell? ⟨w3.heap.size, 1, none⟩ = some (.slice none 0 0) ∧ v5.cell? ⟨w3.heap.size, 2, none⟩ = some (.slice none 0 0) := And.intro ((HQ7.out.below hcv).cell 0 _ rfl) (And.intro ((HQ7.out.below hcv).cell 1 _ rfl) (And.intro ((HQ7.out.below hcv).cell 2 _ rfl) (And.intro ((HQ9.out.below hcv).cell 0 _ rfl) (And.intro ((HQ9.out.below hcv).cell 1 _ rfl) (And.intro ((HQ9.out.below hcv).cell 2 _ rfl) (And.intro ((HQ0.out.below hcv).cell 0 _ rfl) (And.intro ((HQ0.out.below hcv).cell 1 _ rfl) (And.intro ((HQ0.out.below hcv).cell 2 _ rfl) (And.intro ((HQ11.out.below hcv).cell 0 _ rfl) (And.intro ((HQ11.out.below hcv).cell 1 _ rfl) (And.intro ((HQ11.out.below hcv).cell 2 _ rfl) (And.intro ((HQ14.out.below hcv).cell 0 _ rfl) (And.intro ((HQ14.out.below hcv).cell 1 _ rfl) ((HQ14.out.below hcv).cell 2 _ rfl)))))))))))))))
          | (go_at_call 11; with_reducible refine (HSB.out _ hcv).mono ?_; rintro e v5 ⟨rfl, hv5⟩; have hbv := below_trans hbv hv5; have hcv := below_trans hcv hv5; have z : v5.cell? ⟨w1.heap.size, 0, none⟩ = some (.int .i64 0) ∧ v5.cell? ⟨w1.heap.size, 1, none⟩ = some (.slice none 0 0) ∧ v5.cell? ⟨w1.heap.size, 2, none⟩ = some (.slice none 0 0) ∧ v5.cell? ⟨w1.heap.size + 1, 0, none⟩ = some (.int .i64 0) ∧ v5.cell? ⟨w1.heap.size + 1, 1, none⟩ = some (.slice none 0 0) ∧ v5.cell? ⟨w1.heap.size + 1, 2, none⟩ = some (.slice none 0 0) ∧ v5.cell? ⟨w.heap.size, 0, none⟩ = some (.int .i64 b.limit) ∧ v5.cell? ⟨w.heap.size, 1, none⟩ = some (.slice Av b.mem.length cv) ∧ v5.cell? ⟨w.heap.size, 2, none⟩ = some (.slice Ar b.runs.length cr) ∧ v5.cell? ⟨w2.heap.size, 0, none⟩ = some (.int .i64 b1.limit) ∧ v5.cell? ⟨w2.heap.size, 1, none⟩ = some (.slice Am1 b1.mem.length cm1) ∧ v5.cell? ⟨w2.heap.size, 2, none⟩ = some (.slice Ar1 b1.runs.length cr1) ∧ v5.cell? ⟨w3.heap.size, 0, none⟩ = some (.int .i64 0) ∧ v5.cell? ⟨w3.heap.size, 1, none⟩ = some (.slice none 0 0) ∧ v5.cell? ⟨w3.heap.size, 2, none⟩ = some (.slice none 0 0) := And.intro ((HQ7.out.below hcv).cell 0 _ rfl) (And.intro ((HQ7.out.below hcv).cell 1 _ rfl) (And.intro ((HQ7.out.below hcv).cell 2 _ rfl) (And.intro ((HQ9.out.below hcv).cell 0 _ rfl) (And.intro ((HQ9.out.below hcv).cell 1 _ rfl) (And.intro ((HQ9.out.below hcv).cell 2 _ rfl) (And.intro ((HQ0.out.below hcv).cell 0 _ rfl) (And.intro ((HQ0.out.below hcv).cell 1 _ rfl) (And.intro ((HQ0.out.below hcv).cell 2 _ rfl) (And.intro ((HQ11.out.below hcv).cell 0 _ rfl) (And.intro ((HQ11.out.below hcv).cell 1 _ rfl) (And.intro ((HQ11.out.below hcv).cell 2 _ rfl) (And.intro ((HQ14.out.below hcv).cell 0 _ rfl) (And.intro ((HQ14.out.below hcv).cell 1 _ rfl) ((HQ14.out.below hcv).cell 2 _ rfl)))))))))))))))
          | (go_at_call 12; refine (HCH.out _ hbv).mono ?_; rintro e v5 ⟨rfl, hv5⟩; have hbv := below_trans hbv hv5; have hcv := below_trans hcv hv5; have z : v5.cell? ⟨w1.heap.size, 0, none⟩ = some (.int .i64 0) ∧ v5.cell? ⟨w1.heap.size, 1, none⟩ = some (.slice none 0 0) ∧ v5.cell? ⟨w1.heap.size, 2, none⟩ = some (.slice none 0 0) ∧ v5.cell? ⟨w1.heap.size + 1, 0, none⟩ = some (.int .i64 0) ∧ v5.cell? ⟨w1.heap.size + 1, 1, none⟩ = some (.slice none 0 0) ∧ v5.cell? ⟨w1.heap.size + 1, 2, none⟩ = some (.slice none 0 0) ∧ v5.cell? ⟨w.heap.size, 0, none⟩ = some (.int .i64 b.limit) ∧ v5.cell? ⟨w.heap.size, 1, none⟩ = some (.slice Av b.mem.length cv) ∧ v5.cell? ⟨w.heap.size, 2, none⟩ = some (.slice Ar b.runs.length cr) ∧ v5.cell? ⟨w2.heap.size, 0, none⟩ = some (.int .i64 b1.limit) ∧ v5.cell? ⟨w2.heap.size, 1, none⟩ = some (.slice Am1 b1.mem.length cm1) ∧ v5.cell? ⟨w2.heap.size, 2, none⟩ = some (.slice Ar1 b1.runs.length cr1) ∧ v5.cell? ⟨w3.heap.size, 0, none⟩ = some (.int .i64 0) ∧ v5.cell? ⟨w3.heap.size, 1, none⟩ = some (.slice none 0 0) ∧ v5.cell? ⟨w3.heap.size, 2, none⟩ = some (.slice none 0 0) := And.intro ((HQ7.out.below hcv).cell 0 _ rfl) (And.intro ((HQ7.out.below hcv).cell 1 _ rfl) (And.intro ((HQ7.out.below hcv).cell 2 _ rfl) (And.intro ((HQ9.out.below hcv).cell 0 _ rfl) (And.intro ((HQ9.out.below hcv).cell 1 _ rfl) (And.intro ((HQ9.out.below hcv).cell 2 _ rfl) (And.intro ((HQ0.out.below hcv).cell 0 _ rfl) (And.intro ((HQ0.out.below hcv).cell 1 _ rfl) (And.intro ((HQ0.out.below hcv).cell 2 _ rfl) (And.intro ((HQ11.out.below hcv).cell 0 _ rfl) (And.intro ((HQ11.out.below hcv).cell 1 _ rfl) (And.intro ((HQ11.out.below hcv).cell 2 _ rfl) (And.intro ((HQ14.out.below hcv).cell 0 _ rfl) (And.intro ((HQ14.out.below hcv).cell 1 _ rfl) ((HQ14.out.below hcv).cell 2 _ rfl)))))))))))))))
          | (go_at_call 7; refine (HRC.out _ hbv).mono ?_; rintro e v5 ⟨rfl, hv5⟩; have hbv := below_trans hbv hv5; have hcv := below_trans hcv hv5; have z : v5.cell? ⟨w1.heap.size, 0, none⟩ = some (.int .i64 0) ∧ v5.cell? ⟨w1.heap.size, 1, none⟩ = some (.slice none 0 0) ∧ v5.cell? ⟨w1.heap.size, 2, none⟩ = some (.slice none 0 0) ∧ v5.cell? ⟨w1.heap.size + 1, 0, none⟩ = some (.int .i64 0) ∧ v5.cell? ⟨w1.heap.size + 1, 1, none⟩ = some (.slice none 0 0) ∧ v5.cell? ⟨w1.heap.size + 1, 2, none⟩ = some (.slice none 0 0) ∧ v5.cell? ⟨w.heap.size, 0, none⟩ = some (.int .i64 b.limit) ∧ v5.cell? ⟨w.heap.size, 1, none⟩ = some (.slice Av b.mem.length cv) ∧ v5.cell? ⟨w.heap.size, 2, none⟩ = some (.slice Ar b.runs.length cr) ∧ v5.cell? ⟨w2.heap.size, 0, none⟩ = some (.int .i64 b1.limit) ∧ v5.cell? ⟨w2.heap.size, 1, none⟩ = some (.slice Am1 b1.mem.length cm1) ∧ v5.cell? ⟨w2.heap.size, 2, none⟩ = some (.slice Ar1 b1.runs.length cr1) ∧ v5.cell? ⟨w3.heap.size, 0, none⟩ = some (.int .i64 0) ∧ v5.cell? ⟨w3.heap.size, 1, none⟩ = some (.slice none 0 0) ∧ v5.cell? ⟨w3.heap.size, 2, none⟩ = some (.slice none 0 0) := And.intro ((HQ7.out.below hcv).cell 0 _ rfl) (And.intro ((HQ7.out.below hcv).cell 1 _ rfl) (And.intro ((HQ7.out.below hcv).cell 2 _ rfl) (And.intro ((HQ9.out.below hcv).cell 0 _ rfl) (And.intro ((HQ9.out.below hcv).cell 1 _ rfl) (And.intro ((HQ9.out.below hcv).cell 2 _ rfl) (And.intro ((HQ0.out.below hcv).cell 0 _ rfl) (And.intro ((HQ0.out.below hcv).cell 1 _ rfl) (And.intro ((HQ0.out.below hcv).cell 2 _ rfl) (And.intro ((HQ11.out.below hcv).cell 0 _ rfl) (And.intro ((HQ11.out.below hcv).cell 1 _ rfl) (And.intro ((HQ11.out.below hcv).cell 2 _ rfl) (And.intro ((HQ14.out.below hcv).cell 0 _ rfl) (And.intro ((HQ14.out.below hcv).cell 1 _ rfl) ((HQ14.out.below hcv).cell 2 _ rfl))))))))))))))))
      all_goals
        clear z
        go_wp2
        go_ret
        exact ⟨rfl, hbv⟩

end Go.Proofs.YteabfalklgffmaaDoor
