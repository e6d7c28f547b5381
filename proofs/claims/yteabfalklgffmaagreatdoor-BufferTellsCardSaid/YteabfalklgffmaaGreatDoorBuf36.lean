/-
  Meet and Take: something done at a place.
-/
import Derived.Test.YteabfalklgffmaaGreatDoorBuf30
import Derived.Test.YteabfalklgffmaaGreatDoorBuf31
set_option linter.unusedSimpArgs false
set_option linter.unusedVariables false
namespace Go.Proofs.YteabfalklgffmaaGreatDoor
open Go.RowKit Go.Shelf

theorem hasGood_any (b : Buf) (x : Ent) (w : World) (hb : b.ok w) (hg : GoodB b.bu) : Calls Tryz.prog 48 #[b.agg, x.agg] w fun e w' => e = .returned (.bool (isE b.bu.all x.e)) ∧ Below w.heap.size w w' :=
  has_any b x w hb (fun k => by
    by_cases hk : k < b.runs.length + 1
    · exact hg.up _ (by rw [parts_eq]; exact List.mem_map.2 ⟨k, List.mem_range.2 hk, rfl⟩)
    · obtain ⟨j, rfl⟩ : ∃ j, k = j + 1 := ⟨k - 1, by omega⟩
      simp only [Buf.part, List.getElem?_eq_none (l := b.runs) (i := j) (by omega), Option.getD_none]
      exact .nil) (fun k => by have h1 := part_len b k; have h2 := hg.few; omega)
theorem siftAt_any (g : Nat) (keep met : En → Bool) (b : Buf) (key : List UInt8) (t s : Int) (c d : Nat) (w : World) (hb : b.ok w) (hg : GoodB b.bu)
    (hc : Blk w c 48 #[.string (str key), .int .i64 t, .int .i64 s, .slice none 0 0, .bool false]) (hd : Blk w d 49 #[.func (.func g) #[] #[]])
    (hw : ∀ (x : Ent) (W : World) (P c d : Nat), Blk W P 48 #[.string (str x.e.key), .int .i64 x.e.t, .int .i64 x.e.s, x.v, .bool x.e.met] →
      Blk W c 48 #[.string (str key), .int .i64 t, .int .i64 s, .slice none 0 0, .bool false] → Blk W d 49 #[.func (.func g) #[] #[]] → (∃ A n k, x.v = .slice A n k) →
      Calls Tryz.prog 49 #[.pointer (some ⟨P, 0, none⟩), .pointer (some ⟨c, 0, none⟩), .pointer (some ⟨d, 0, none⟩)] W fun e w2 => e = .returned (.bool (keep x.e)) ∧
        Blk w2 P 48 #[.string (str x.e.key), .int .i64 x.e.t, .int .i64 x.e.s, x.v, .bool (met x.e)] ∧ W.grownBy w2 (some P)) :
    Calls Tryz.prog 43 #[b.agg, .func (.func 49) #[] #[.pointer (some ⟨c, 0, none⟩), .pointer (some ⟨d, 0, none⟩)]] w fun e w' => ∃ b' : Buf, e = .returned b'.agg ∧ OwnBuf w' (w.heap.size + 5) b' ∧ b'.bu = siftB b.bu (siftF keep met) ∧ Below w.heap.size w w' ∧ w.heap.size + 5 ≤ w'.heap.size :=
  sift_any 49 #[.pointer (some ⟨c, 0, none⟩), .pointer (some ⟨d, 0, none⟩)] keep met b w hb (fun k => by have h1 := part_len b k; have h2 := hg.few; omega) (by have := good_runs hg; omega) (fun k x hx => okE_short (hg.ok _ (part_mem hx)))
    (enters_of Tryz.func49 (by kernel_rfl) rfl) (fun x W P h1 _ hs hB => hw x W P c d hB (hc.below h1) (hd.below h1) (by obtain ⟨A, k, e, -⟩ := hs; exact ⟨A, _, k, e⟩))

set_option maxHeartbeats 8000000 in
set_option maxRecDepth 10000 in
theorem at_any (g : Nat) (keep met : En → Bool) (b : Buf) (key : List UInt8) (t s : Int) (w : World) (hb : b.ok w) (hf : b.fit) (hm : Mx w)
    (hw : ∀ (x : Ent) (W : World) (P c d : Nat), Blk W P 48 #[.string (str x.e.key), .int .i64 x.e.t, .int .i64 x.e.s, x.v, .bool x.e.met] →
      Blk W c 48 #[.string (str key), .int .i64 t, .int .i64 s, .slice none 0 0, .bool false] → Blk W d 49 #[.func (.func g) #[] #[]] → (∃ A n k, x.v = .slice A n k) →
      Calls Tryz.prog 49 #[.pointer (some ⟨P, 0, none⟩), .pointer (some ⟨c, 0, none⟩), .pointer (some ⟨d, 0, none⟩)] W fun e w2 => e = .returned (.bool (keep x.e)) ∧
        Blk w2 P 48 #[.string (str x.e.key), .int .i64 x.e.t, .int .i64 x.e.s, x.v, .bool (met x.e)] ∧ W.grownBy w2 (some P)) :
    Calls Tryz.prog 22 #[b.agg, .string (str key), .int .i64 t, .int .i64 s, .func (.func g) #[] #[]] w fun e w' => ∃ b' : Buf, e = .returned (.tuple #[b'.agg, .int .i64 (atS b.bu key t s)]) ∧ OwnBuf w' w.heap.size b' ∧ b'.bu = (if atS b.bu key t s = 0 then siftB b.bu (siftF keep met) else noB) ∧ Below w.heap.size w w' := by
  have HO := Lib.hid hb
  have HCH := Lib.hid (fun w' (h : Below w.heap.size w w') => check_any b w' (hb.below h) hf (hm.below h))
  have HHA := Lib.hid (fun (hg : GoodB b.bu) w' (h : Below w.heap.size w w') => hasGood_any b (placeE key t s) w' (hb.below h) hg)
  have HSI := Lib.hid (fun (hg : GoodB b.bu) c d w' (h : Below w.heap.size w w') hc hd => siftAt_any g keep met b key t s c d w' (hb.below h) hg hc hd hw)
  have HGD := Lib.hid (check_zeroB (b := b.bu))
  have HAS : Hid (atS b.bu key t s = if checkB b.bu ≠ 0 then checkB b.bu else if isE b.bu.all (placeE key t s).e = true then 0 else 9) := Lib.hid rfl
  generalize siftB b.bu (siftF keep met) = SS at HSI ⊢
  generalize atS b.bu key t s = AS at HAS ⊢
  obtain ⟨SX, hSX⟩ : ∃ SX, (if AS = 0 then SS else noB) = SX := ⟨_, rfl⟩
  rw [hSX]
  have HSQ := Lib.hid hSX
  clear hSX
  generalize checkB b.bu = CK at HCH HGD HAS
  generalize isE b.bu.all (placeE key t s).e = IS at HHA HAS
  obtain ⟨Av, cv, hvb, -⟩ := id hb.mem.sl
  obtain ⟨Ar, cr, hvr, -⟩ := id hb.sl
  unfold Buf.agg at HCH HSI HHA ⊢
  rw [placeE_agg] at HHA
  rw [hvb, hvr] at HCH HSI HHA
  rw [hvb, hvr]
  have HK0 := Lib.hid (((Blk.new w 25 #[.int .i64 b.limit, .slice Av b.mem.length cv, .slice Ar b.runs.length cr]).alloc (.cells #[.func (.func g) #[] #[]] 49)).alloc (.cells #[.int .i64 0, .slice none 0 0, .slice none 0 0] 25))
  have HK1 := Lib.hid ((new_second w 49 #[.func (.func g) #[] #[]] (.cells #[.int .i64 b.limit, .slice Av b.mem.length cv, .slice Ar b.runs.length cr] 25)).alloc (.cells #[.int .i64 0, .slice none 0 0, .slice none 0 0] 25))
  have HK2 := Lib.hid (show Blk (((w.alloc (.cells #[.int .i64 b.limit, .slice Av b.mem.length cv, .slice Ar b.runs.length cr] 25)).alloc (.cells #[.func (.func g) #[] #[]] 49)).alloc (.cells #[.int .i64 0, .slice none 0 0, .slice none 0 0] 25)) (w.heap.size + 1 + 1) 25 #[.int .i64 0, .slice none 0 0, .slice none 0 0] from by
    have := Blk.new ((w.alloc (.cells #[.int .i64 b.limit, .slice Av b.mem.length cv, .slice Ar b.runs.length cr] 25)).alloc (.cells #[.func (.func g) #[] #[]] 49)) 25 #[.int .i64 0, .slice none 0 0, .slice none 0 0]
    simpa using this)
  have hB := below_trans (below_trans (below_alloc w (.cells #[.int .i64 b.limit, .slice Av b.mem.length cv, .slice Ar b.runs.length cr] 25)) (below_alloc _ (.cells #[.func (.func g) #[] #[]] 49))) (below_alloc _ (.cells #[.int .i64 0, .slice none 0 0, .slice none 0 0] 25))
  have y0 := HK0.out.cell 0 _ rfl
  have y1 := HK0.out.cell 1 _ rfl
  have y2 := HK0.out.cell 2 _ rfl
  clear hb hf hm hw hvb hvr
  go_enter Tryz.func22, Tryz.ntmps22
  go_wp2_with fail
  refine (HCH.out _ hB).mono ?_
  rintro e w1 ⟨rfl, hb1⟩
  have hbw1 := below_trans hB hb1
  have HJ0 := Lib.hid (HK0.out.below hb1)
  have HJ1 := Lib.hid (HK1.out.below hb1)
  have HJ2 := Lib.hid (HK2.out.below hb1)
  clear y0 y1 y2 hB hb1 HK0 HK1 HK2 HCH
  by_cases hck : CK = 0
  · have HGO := Lib.hid (HGD.out.1 hck)
    have HAS2 := Lib.hid (HAS.out.trans (if_neg (fun h => h hck)))
    subst hck
    have y0 := HJ0.out.cell 0 _ rfl
    have y1 := HJ0.out.cell 1 _ rfl
    have y2 := HJ0.out.cell 2 _ rfl
    have hbw2 := below_trans hbw1 (below_alloc w1 (.cells #[.string (str key), .int .i64 t, .int .i64 s, .slice none 0 0, .bool false] 48))
    have HL0 := Lib.hid (HJ0.out.alloc (.cells #[.string (str key), .int .i64 t, .int .i64 s, .slice none 0 0, .bool false] 48))
    have HL1 := Lib.hid (HJ1.out.alloc (.cells #[.string (str key), .int .i64 t, .int .i64 s, .slice none 0 0, .bool false] 48))
    have HL2 := Lib.hid (HJ2.out.alloc (.cells #[.string (str key), .int .i64 t, .int .i64 s, .slice none 0 0, .bool false] 48))
    have HL3 := Lib.hid (Blk.new w1 48 #[.string (str key), .int .i64 t, .int .i64 s, .slice none 0 0, .bool false])
    have x0 := HL0.out.cell 0 _ rfl
    have x1 := HL0.out.cell 1 _ rfl
    have x2 := HL0.out.cell 2 _ rfl
    have z0 := HL3.out.cell 0 _ rfl
    have z1 := HL3.out.cell 1 _ rfl
    have z2 := HL3.out.cell 2 _ rfl
    have z3 := HL3.out.cell 3 _ rfl
    have z4 := HL3.out.cell 4 _ rfl
    have HHX := Lib.hid (HHA.out HGO.out _ hbw2)
    clear HGD HHA HJ0 HJ1 HJ2 HAS
    go_wp2_with fail
    refine HHX.out.mono ?_
    rintro e w3 ⟨rfl, hb3⟩
    have hbw3 := below_trans hbw2 hb3
    have HM0 := Lib.hid (HL0.out.below hb3)
    have HM1 := Lib.hid (HL1.out.below hb3)
    have HM2 := Lib.hid (HL2.out.below hb3)
    have HM3 := Lib.hid (HL3.out.below hb3)
    clear y0 y1 y2 x0 x1 x2 z0 z1 z2 z3 z4 hb3 HL0 HL1 HL2 HL3 HHX
    cases IS with
    | true =>
      have HA0 : Hid (AS = 0) := Lib.hid (HAS2.out.trans (if_pos rfl))
      have HSX := Lib.hid (HSI.out HGO.out w1.heap.size (w.heap.size + 1) _ hbw3 HM3.out HM1.out)
      have y0 := HM0.out.cell 0 _ rfl
      have y1 := HM0.out.cell 1 _ rfl
      have y2 := HM0.out.cell 2 _ rfl
      clear HAS2 HSI HM0 HM1 HM3
      go_wp2_with fail
      refine HSX.out.mono ?_
      rintro e w4 ⟨b2, rfl, hob2, hE, hb4, -⟩
      have hbw4 := below_trans hbw3 hb4
      have hs3 := hbw3.size
      obtain ⟨Am, cm, hvm, -⟩ := id hob2.ok.mem.sl
      obtain ⟨Ar2, cr2, hvr2, -⟩ := id hob2.ok.sl
      have HVM := Lib.hid hvm
      have HVR := Lib.hid hvr2
      rw [hvm, hvr2]
      have K2 := HM2.out.below hb4
      have hlt := HM2.out.lt
      have f0 := K2.free 0
      have f1 := K2.free 1
      have f2 := K2.free 2
      have r0 := K2.cell 0 _ rfl
      have r1 := K2.cell 1 _ rfl
      have r2 := K2.cell 2 _ rfl
      have KZ := K2.set3 (.int .i64 b2.limit) (.slice Am b2.mem.length cm) (.slice Ar2 b2.runs.length cr2)
      have z0 := KZ.cell 0 _ rfl
      have z1 := KZ.cell 1 _ rfl
      have z2 := KZ.cell 2 _ rfl
      have hb9 := below_set3 hbw4 (g := w.heap.size + 1 + 1) (by omega) (.int .i64 b2.limit) (.slice Am b2.mem.length cm) (.slice Ar2 b2.runs.length cr2)
      have HOB := Lib.hid ((hob2.set3 (g := w.heap.size + 1 + 1) (by omega) (.int .i64 b2.limit) (.slice Am b2.mem.length cm) (.slice Ar2 b2.runs.length cr2)).low (base' := w.heap.size) (by omega))
      clear y0 y1 y2 HSX hvm hvr2 K2 KZ hob2 hb4 HM2 hlt hs3
      go_wp2
      refine bodyPost_ret (v := .tuple #[.agg #[.int .i64 b2.limit, .slice Am b2.mem.length cm, .slice Ar2 b2.runs.length cr2], .int .i64 0]) (by simp [results, Tryz.results22, go_sem, z0, z1, z2]) rfl ?_
      exact ⟨b2, by rw [HVM.out, HVR.out, HA0.out], HOB.out, by rw [hE, ← HSQ.out, HA0.out]; rfl, hb9⟩
    | false =>
      have HA0 : Hid (AS = 9) := Lib.hid (HAS2.out.trans (if_neg (by simp)))
      have f0 := HM2.out.free 0
      have f1 := HM2.out.free 1
      have f2 := HM2.out.free 2
      have r0 := HM2.out.cell 0 _ rfl
      have r1 := HM2.out.cell 1 _ rfl
      have r2 := HM2.out.cell 2 _ rfl
      have KZ := HM2.out.set3 (.int .i64 0) (.slice none 0 0) (.slice none 0 0)
      have z0 := KZ.cell 0 _ rfl
      have z1 := KZ.cell 1 _ rfl
      have z2 := KZ.cell 2 _ rfl
      have hb9 := below_set3 hbw3 (g := w.heap.size + 1 + 1) (by omega) (.int .i64 0) (.slice none 0 0) (.slice none 0 0)
      clear HAS2 HSI HM0 HM1 HM3 KZ
      go_wp2
      refine bodyPost_ret (v := .tuple #[.agg #[.int .i64 0, .slice none 0 0, .slice none 0 0], .int .i64 9]) (by simp [results, Tryz.results22, go_sem, z0, z1, z2]) rfl ?_
      exact ⟨zB, by rw [HA0.out]; rfl, OwnBuf.empty _ _ _, by rw [← HSQ.out, HA0.out]; rfl, hb9⟩
  · have HA0 : Hid (AS = CK) := Lib.hid (HAS.out.trans (if_pos hck))
    have HSX : Hid (SX = noB) := Lib.hid (by rw [← HSQ.out, HA0.out]; exact if_neg hck)
    have hb0 := bneT hck
    have K2 := HJ2.out
    have f0 := K2.free 0
    have f1 := K2.free 1
    have f2 := K2.free 2
    have r0 := K2.cell 0 _ rfl
    have r1 := K2.cell 1 _ rfl
    have r2 := K2.cell 2 _ rfl
    have KZ := K2.set3 (.int .i64 0) (.slice none 0 0) (.slice none 0 0)
    have z0 := KZ.cell 0 _ rfl
    have z1 := KZ.cell 1 _ rfl
    have z2 := KZ.cell 2 _ rfl
    have hb9 := below_set3 hbw1 (g := w.heap.size + 1 + 1) (by omega) (.int .i64 0) (.slice none 0 0) (.slice none 0 0)
    clear HGD K2 KZ HSI HAS hck HJ0 HJ1 HJ2
    go_wp2
    refine bodyPost_ret (v := .tuple #[.agg #[.int .i64 0, .slice none 0 0, .slice none 0 0], .int .i64 CK]) (by simp [results, Tryz.results22, go_sem, z0, z1, z2]) rfl ?_
    exact ⟨zB, by rw [HA0.out]; rfl, OwnBuf.empty _ _ _, by rw [HSX.out]; exact zB_bu, hb9⟩
theorem meetB_sift (b : Bu) (key : List UInt8) (t s : Int) : meetB b key t s = siftB b (siftF (fun _ => true) (fun e => if atE key t s e = true then true else e.met)) := by
  unfold meetB
  congr 1
  funext e
  unfold siftF
  rw [if_pos rfl]
  cases h : atE key t s e <;> simp [h]
theorem takeB_sift (b : Bu) (key : List UInt8) (t s : Int) : takeB b key t s = siftB b (siftF (fun e => !atE key t s e) (fun e => e.met)) := by
  unfold takeB
  congr 1
  funext e
  unfold siftF
  cases h : atE key t s e <;> simp [h]

set_option maxHeartbeats 8000000 in
set_option maxRecDepth 10000 in
theorem meet_anyB (b : Buf) (key : List UInt8) (t s : Int) (w : World) (hb : b.ok w) (hf : b.fit) (hm : Mx w) :
    Calls Tryz.prog 5 #[b.agg, .string (str key), .int .i64 t, .int .i64 s] w fun e w' => ∃ b' : Buf, e = .returned (.tuple #[b'.agg, .int .i64 (atS b.bu key t s)]) ∧ OwnBuf w' w.heap.size b' ∧ b'.bu = (if atS b.bu key t s = 0 then meetB b.bu key t s else noB) ∧ Below w.heap.size w w' := by
  have HAT := Lib.hid (fun w' (h : Below w.heap.size w w') => at_any 23 (fun _ => true) (fun e => if atE key t s e = true then true else e.met) b key t s w' (hb.below h) hf (hm.below h) (fun x W P c d hP hc hd hv => at1Meet_any key t s c d x W P hP hc hd hv))
  rw [← meetB_sift] at HAT
  generalize meetB b.bu key t s = SS at HAT ⊢
  generalize atS b.bu key t s = AS at HAT ⊢
  generalize (if AS = 0 then SS else noB) = SX at HAT ⊢
  obtain ⟨Av, cv, hvb, -⟩ := id hb.mem.sl
  obtain ⟨Ar, cr, hvr, -⟩ := id hb.sl
  unfold Buf.agg at HAT ⊢
  rw [hvb, hvr] at HAT
  rw [hvb, hvr]
  have HK0 := Lib.hid (new_first w 25 #[.int .i64 b.limit, .slice Av b.mem.length cv, .slice Ar b.runs.length cr] (.cells #[.int .i64 0, .slice none 0 0, .slice none 0 0] 25))
  have HK1 := Lib.hid (new_second w 25 #[.int .i64 0, .slice none 0 0, .slice none 0 0] (.cells #[.int .i64 b.limit, .slice Av b.mem.length cv, .slice Ar b.runs.length cr] 25))
  have hB := below_trans (below_alloc w (.cells #[.int .i64 b.limit, .slice Av b.mem.length cv, .slice Ar b.runs.length cr] 25)) (below_alloc _ (.cells #[.int .i64 0, .slice none 0 0, .slice none 0 0] 25))
  have y0 := HK0.out.cell 0 _ rfl
  have y1 := HK0.out.cell 1 _ rfl
  have y2 := HK0.out.cell 2 _ rfl
  clear hb hf hm hvb hvr
  go_enter Tryz.func5, Tryz.ntmps5
  go_wp2_with fail
  refine (HAT.out _ hB).mono ?_
  rintro e w2 ⟨b2, rfl, hob2, hE, hb2⟩
  have hbw2 := below_trans hB hb2
  have hs2 := hB.size
  obtain ⟨Am, cm, hvm, -⟩ := id hob2.ok.mem.sl
  obtain ⟨Ar2, cr2, hvr2, -⟩ := id hob2.ok.sl
  have HVM := Lib.hid hvm
  have HVR := Lib.hid hvr2
  rw [hvm, hvr2]
  have K2 := HK1.out.below hb2
  have hlt := HK1.out.lt
  have f0 := K2.free 0
  have f1 := K2.free 1
  have f2 := K2.free 2
  have r0 := K2.cell 0 _ rfl
  have r1 := K2.cell 1 _ rfl
  have r2 := K2.cell 2 _ rfl
  have KZ := K2.set3 (.int .i64 b2.limit) (.slice Am b2.mem.length cm) (.slice Ar2 b2.runs.length cr2)
  have z0 := KZ.cell 0 _ rfl
  have z1 := KZ.cell 1 _ rfl
  have z2 := KZ.cell 2 _ rfl
  have hb9 := below_set3 hbw2 (g := w.heap.size + 1) (by omega) (.int .i64 b2.limit) (.slice Am b2.mem.length cm) (.slice Ar2 b2.runs.length cr2)
  have HOB := Lib.hid ((hob2.set3 (g := w.heap.size + 1) hlt (.int .i64 b2.limit) (.slice Am b2.mem.length cm) (.slice Ar2 b2.runs.length cr2)).low (base' := w.heap.size) hs2)
  clear y0 y1 y2 HAT hvm hvr2 K2 KZ hob2 hb2 hB hlt hs2
  go_wp2
  refine bodyPost_ret (v := .tuple #[.agg #[.int .i64 b2.limit, .slice Am b2.mem.length cm, .slice Ar2 b2.runs.length cr2], .int .i64 AS]) (by simp [results, Tryz.results5, go_sem, z0, z1, z2]) rfl ?_
  exact ⟨b2, by rw [HVM.out, HVR.out], HOB.out, hE, hb9⟩

set_option maxHeartbeats 8000000 in
set_option maxRecDepth 10000 in
theorem take_anyB (b : Buf) (key : List UInt8) (t s : Int) (w : World) (hb : b.ok w) (hf : b.fit) (hm : Mx w) :
    Calls Tryz.prog 6 #[b.agg, .string (str key), .int .i64 t, .int .i64 s] w fun e w' => ∃ b' : Buf, e = .returned (.tuple #[b'.agg, .int .i64 (atS b.bu key t s)]) ∧ OwnBuf w' w.heap.size b' ∧ b'.bu = (if atS b.bu key t s = 0 then takeB b.bu key t s else noB) ∧ Below w.heap.size w w' := by
  have HAT := Lib.hid (fun w' (h : Below w.heap.size w w') => at_any 24 (fun e => !atE key t s e) (fun e => e.met) b key t s w' (hb.below h) hf (hm.below h) (fun x W P c d hP hc hd hv => at1Take_any key t s c d x W P hP hc hd hv))
  rw [← takeB_sift] at HAT
  generalize takeB b.bu key t s = SS at HAT ⊢
  generalize atS b.bu key t s = AS at HAT ⊢
  generalize (if AS = 0 then SS else noB) = SX at HAT ⊢
  obtain ⟨Av, cv, hvb, -⟩ := id hb.mem.sl
  obtain ⟨Ar, cr, hvr, -⟩ := id hb.sl
  unfold Buf.agg at HAT ⊢
  rw [hvb, hvr] at HAT
  rw [hvb, hvr]
  have HK0 := Lib.hid (new_first w 25 #[.int .i64 b.limit, .slice Av b.mem.length cv, .slice Ar b.runs.length cr] (.cells #[.int .i64 0, .slice none 0 0, .slice none 0 0] 25))
  have HK1 := Lib.hid (new_second w 25 #[.int .i64 0, .slice none 0 0, .slice none 0 0] (.cells #[.int .i64 b.limit, .slice Av b.mem.length cv, .slice Ar b.runs.length cr] 25))
  have hB := below_trans (below_alloc w (.cells #[.int .i64 b.limit, .slice Av b.mem.length cv, .slice Ar b.runs.length cr] 25)) (below_alloc _ (.cells #[.int .i64 0, .slice none 0 0, .slice none 0 0] 25))
  have y0 := HK0.out.cell 0 _ rfl
  have y1 := HK0.out.cell 1 _ rfl
  have y2 := HK0.out.cell 2 _ rfl
  clear hb hf hm hvb hvr
  go_enter Tryz.func6, Tryz.ntmps6
  go_wp2_with fail
  refine (HAT.out _ hB).mono ?_
  rintro e w2 ⟨b2, rfl, hob2, hE, hb2⟩
  have hbw2 := below_trans hB hb2
  have hs2 := hB.size
  obtain ⟨Am, cm, hvm, -⟩ := id hob2.ok.mem.sl
  obtain ⟨Ar2, cr2, hvr2, -⟩ := id hob2.ok.sl
  have HVM := Lib.hid hvm
  have HVR := Lib.hid hvr2
  rw [hvm, hvr2]
  have K2 := HK1.out.below hb2
  have hlt := HK1.out.lt
  have f0 := K2.free 0
  have f1 := K2.free 1
  have f2 := K2.free 2
  have r0 := K2.cell 0 _ rfl
  have r1 := K2.cell 1 _ rfl
  have r2 := K2.cell 2 _ rfl
  have KZ := K2.set3 (.int .i64 b2.limit) (.slice Am b2.mem.length cm) (.slice Ar2 b2.runs.length cr2)
  have z0 := KZ.cell 0 _ rfl
  have z1 := KZ.cell 1 _ rfl
  have z2 := KZ.cell 2 _ rfl
  have hb9 := below_set3 hbw2 (g := w.heap.size + 1) (by omega) (.int .i64 b2.limit) (.slice Am b2.mem.length cm) (.slice Ar2 b2.runs.length cr2)
  have HOB := Lib.hid ((hob2.set3 (g := w.heap.size + 1) hlt (.int .i64 b2.limit) (.slice Am b2.mem.length cm) (.slice Ar2 b2.runs.length cr2)).low (base' := w.heap.size) hs2)
  clear y0 y1 y2 HAT hvm hvr2 K2 KZ hob2 hb2 hB hlt hs2
  go_wp2
  refine bodyPost_ret (v := .tuple #[.agg #[.int .i64 b2.limit, .slice Am b2.mem.length cm, .slice Ar2 b2.runs.length cr2], .int .i64 AS]) (by simp [results, Tryz.results6, go_sem, z0, z1, z2]) rfl ?_
  exact ⟨b2, by rw [HVM.out, HVR.out], HOB.out, hE, hb9⟩
end Go.Proofs.YteabfalklgffmaaGreatDoor
