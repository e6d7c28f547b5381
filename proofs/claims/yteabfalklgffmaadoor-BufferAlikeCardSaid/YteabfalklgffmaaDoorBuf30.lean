/-
  All, Pack and Drop.
-/
import Derived.Test.YteabfalklgffmaaDoorBuf26
import Derived.Test.YteabfalklgffmaaDoorBuf27
import Derived.Test.YteabfalklgffmaaDoorBuf33
set_option linter.unusedSimpArgs false
set_option linter.unusedVariables false
namespace Go.Proofs.YteabfalklgffmaaDoor
open Go.RowKit Go.Shelf

theorem merged_sort {b : Bu} {m : List En} (hg : Alone b.all) (hp : m.Perm b.all) (hs : m.Pairwise fun a b => ¬ cmpE b a < 0) : m = sortE b.all := by
  have hmA := alone_perm hp.symm hg
  have hmU : Up m := by
    refine List.pairwise_iff_getElem.2 fun i j hi hj hij => ?_
    have h2 := List.pairwise_iff_getElem.1 hs i j hi hj hij
    have h3 := List.pairwise_iff_getElem.1 hmA i j hi hj hij
    have h4 := cmpE_flip m[i] m[j]
    omega
  exact (sortE_eq hp hmU).symm
theorem mergedGood_any (b : Buf) (w : World) (hb : b.ok w) (hg : GoodB b.bu) :
    Calls Tryd.prog 35 #[b.agg] w fun e w' => ∃ v l, e = .returned v ∧ OwnE w' (w.heap.size + 3) v l ∧ ens l = sortE b.bu.all ∧ Below w.heap.size w w' ∧ w.heap.size + 3 ≤ w'.heap.size := by
  refine (merged_any b w hb (fun k => by have h1 := part_len b k; have h2 := hg.few; omega) (by have := hg.few; omega) (by have := good_runs hg; omega) (fun k x hx => okE_short (hg.ok _ (part_mem hx)))).mono ?_
  rintro e w' ⟨v, l, he, ho, hp, hs, hb, hsz⟩
  exact ⟨v, l, he, ho, merged_sort hg.alone hp hs, hb, hsz⟩

set_option maxHeartbeats 4000000 in
set_option maxRecDepth 10000 in
theorem all_any (b : Buf) (w : World) (hb : b.ok w) (hf : b.fit) (hm : Mx w) :
    Calls Tryd.prog 15 #[b.agg] w fun e w' => ∃ v l, e = .returned (.tuple #[v, .int .i64 (checkB b.bu)]) ∧ OwnE w' w.heap.size v l ∧ ens l = (if checkB b.bu = 0 then sortE b.bu.all else []) ∧ Below w.heap.size w w' := by
  have HO := Lib.hid hb
  have HCH := Lib.hid (fun w' (h : Below w.heap.size w w') => check_any b w' (hb.below h) hf (hm.below h))
  have HME := Lib.hid (fun (hg : GoodB b.bu) w' (h : Below w.heap.size w w') => mergedGood_any b w' (hb.below h) hg)
  have HGD := Lib.hid (check_zeroB (b := b.bu))
  generalize checkB b.bu = CK at HCH HGD ⊢
  generalize hSL : (if CK = 0 then sortE b.bu.all else []) = SL
  obtain ⟨Av, cv, hvb, -⟩ := id hb.mem.sl
  obtain ⟨Ar, cr, hvr, -⟩ := id hb.sl
  unfold Buf.agg at HCH HME ⊢
  rw [hvb, hvr] at HCH HME ⊢
  have HK := Lib.hid (Blk.new w 25 #[.int .i64 b.limit, .slice Av b.mem.length cv, .slice Ar b.runs.length cr])
  have hB := below_alloc w (.cells #[.int .i64 b.limit, .slice Av b.mem.length cv, .slice Ar b.runs.length cr] 25)
  have y0 := HK.out.cell 0 _ rfl
  have y1 := HK.out.cell 1 _ rfl
  have y2 := HK.out.cell 2 _ rfl
  clear hb hf hm hvb hvr
  go_enter Tryd.func15, Tryd.ntmps15
  go_wp2_with fail
  refine (HCH.out _ hB).mono ?_
  rintro e w1 ⟨rfl, hb1⟩
  have hbw1 := below_trans hB hb1
  have K1 := HK.out.below hb1
  clear y0 y1 y2 hB hb1 HK
  by_cases hck : CK = 0
  · have HGO := HGD.out.1 hck
    have HSL : Hid (SL = sortE b.bu.all) := Lib.hid (hSL.symm.trans (if_pos hck))
    have HMX := Lib.hid (HME.out HGO _ hbw1)
    subst hck
    have y0 := K1.cell 0 _ rfl
    have y1 := K1.cell 1 _ rfl
    have y2 := K1.cell 2 _ rfl
    clear HGD hSL HGO HME HCH K1
    go_wp2_with fail
    refine HMX.out.mono ?_
    rintro e w2 ⟨v, l, rfl, hown, he, hb2, -⟩
    have hbw2 := below_trans hbw1 hb2
    have hE : ens l = SL := by rw [he, HSL.out]
    have hO := hown.low (base' := w.heap.size) (by have := hbw1.size; omega)
    clear y0 y1 y2 HMX HSL he hown
    go_wp2
    go_ret2
    exact ⟨v, l, rfl, hO, hE, hbw2⟩
  · have hE : SL = [] := hSL.symm.trans (if_neg hck)
    have hb0 := bneT hck
    clear hSL HGD K1
    go_wp2
    go_ret2
    exact ⟨.slice none 0 0, [], rfl, OwnE.nil _ _, hE.symm, hbw1⟩

set_option maxHeartbeats 8000000 in
set_option maxRecDepth 10000 in
theorem pack_any (b : Buf) (w : World) (hb : b.ok w) (hf : b.fit) (hm : Mx w) :
    Calls Tryd.prog 14 #[b.agg] w fun e w' => ∃ b' : Buf, e = .returned (.tuple #[b'.agg, .int .i64 (checkB b.bu)]) ∧ OwnBuf w' w.heap.size b' ∧ b'.bu = (if checkB b.bu = 0 then packB b.bu else noB) ∧ Below w.heap.size w w' := by
  have HO := Lib.hid hb
  have HCH := Lib.hid (fun w' (h : Below w.heap.size w w') => check_any b w' (hb.below h) hf (hm.below h))
  have HME := Lib.hid (fun (hg : GoodB b.bu) w' (h : Below w.heap.size w w') => mergedGood_any b w' (hb.below h) hg)
  have HGD := Lib.hid (check_zeroB (b := b.bu))
  have HLI : Hid (b.bu.limit = b.limit) := Lib.hid rfl
  generalize checkB b.bu = CK at HCH HGD ⊢
  generalize hSL : (if CK = 0 then packB b.bu else noB) = SL
  obtain ⟨Av, cv, hvb, -⟩ := id hb.mem.sl
  obtain ⟨Ar, cr, hvr, -⟩ := id hb.sl
  unfold Buf.agg at HCH HME ⊢
  rw [hvb, hvr] at HCH HME
  rw [hvb, hvr]
  have B0 := new_first w 25 #[.int .i64 b.limit, .slice Av b.mem.length cv, .slice Ar b.runs.length cr] (.cells #[.int .i64 0, .slice none 0 0, .slice none 0 0] 25)
  have B1 := new_second w 25 #[.int .i64 0, .slice none 0 0, .slice none 0 0] (.cells #[.int .i64 b.limit, .slice Av b.mem.length cv, .slice Ar b.runs.length cr] 25)
  have HK0 := Lib.hid B0
  have HK1 := Lib.hid B1
  have hB := below_trans (below_alloc w (.cells #[.int .i64 b.limit, .slice Av b.mem.length cv, .slice Ar b.runs.length cr] 25)) (below_alloc _ (.cells #[.int .i64 0, .slice none 0 0, .slice none 0 0] 25))
  have y0 := B0.cell 0 _ rfl
  have y1 := B0.cell 1 _ rfl
  have y2 := B0.cell 2 _ rfl
  clear hb hf hm hvb hvr B0 B1
  go_enter Tryd.func14, Tryd.ntmps14
  go_wp2_with fail
  refine (HCH.out _ hB).mono ?_
  rintro e w1 ⟨rfl, hb1⟩
  have hbw1 := below_trans hB hb1
  have K0 := HK0.out.below hb1
  have K1 := HK1.out.below hb1
  clear y0 y1 y2 hB hb1 HK0 HK1 HCH
  have f0 := K1.free 0
  have f1 := K1.free 1
  have f2 := K1.free 2
  have r0 := K1.cell 0 _ rfl
  have r1 := K1.cell 1 _ rfl
  have r2 := K1.cell 2 _ rfl
  by_cases hck : CK = 0
  · have HGO := Lib.hid (HGD.out.1 hck)
    have HSL : Hid (SL = packB b.bu) := Lib.hid (hSL.symm.trans (if_pos hck))
    subst hck
    have y0 := K0.cell 0 _ rfl
    have y1 := K0.cell 1 _ rfl
    have y2 := K0.cell 2 _ rfl
    have HB2 := Lib.hid (below_trans hbw1 (below_alloc w1 (.cells #[.int .i64 b.limit, .slice none 0 0, .slice none 0 0] 25)))
    have HMX := Lib.hid (HME.out HGO.out _ HB2.out)
    have HJ0 := Lib.hid (K0.alloc (.cells #[.int .i64 b.limit, .slice none 0 0, .slice none 0 0] 25))
    have HJ1 := Lib.hid (K1.alloc (.cells #[.int .i64 b.limit, .slice none 0 0, .slice none 0 0] 25))
    have HJ2 := Lib.hid (Blk.new w1 25 #[.int .i64 b.limit, .slice none 0 0, .slice none 0 0])
    have HLT := Lib.hid K1.lt
    have x0 := HJ0.out.cell 0 _ rfl
    have x1 := HJ0.out.cell 1 _ rfl
    have x2 := HJ0.out.cell 2 _ rfl
    clear HGD hSL HME K0 K1 f0 f1 f2 r0 r1 r2
    go_wp2_with fail
    refine HMX.out.mono ?_
    rintro e w2 ⟨v, l, rfl, hown, he, hb2, hsz⟩
    have HBW2 := Lib.hid (below_trans HB2.out hb2)
    obtain ⟨A, c, hv, -⟩ := id hown.ents.sl
    subst hv
    have HOW := Lib.hid hown
    have HE := Lib.hid he
    have hlt1 : w.heap.size + 1 < w1.heap.size := HLT.out
    have hS2 : w1.heap.size < w2.heap.size := by simp at hsz; omega
    have k1 := HJ1.out.below hb2
    have k2 := HJ2.out.below hb2
    clear y0 y1 y2 x0 x1 x2 HMX hown he hbw1 hsz HB2 HJ0
    by_cases hl : l = []
    · subst hl
      have hnil : sortE b.bu.all = [] := by rw [← HE.out]; rfl
      have HSX : Hid (SL = ⟨b.limit, [], []⟩) := Lib.hid (HSL.out.trans ((packB_nil hnil).trans (by rw [HLI.out])))
      have y0 := k2.cell 0 _ rfl
      have y1 := k2.cell 1 _ rfl
      have y2 := k2.cell 2 _ rfl
      have f0 := k1.free 0
      have f1 := k1.free 1
      have f2 := k1.free 2
      have r0 := k1.cell 0 _ rfl
      have r1 := k1.cell 1 _ rfl
      have r2 := k1.cell 2 _ rfl
      have KZ := k1.set3 (.int .i64 b.limit) (.slice none 0 0) (.slice none 0 0)
      have z0 := KZ.cell 0 _ rfl
      have z1 := KZ.cell 1 _ rfl
      have z2 := KZ.cell 2 _ rfl
      have hb9 := below_set3 HBW2.out (g := w.heap.size + 1) (by omega) (.int .i64 b.limit) (.slice none 0 0) (.slice none 0 0)
      clear hnil k1 k2 KZ HSL
      go_wp2
      refine bodyPost_ret (v := .tuple #[.agg #[.int .i64 b.limit, .slice none 0 0, .slice none 0 0], .int .i64 0]) (by simp [results, Tryd.results14, go_sem, z0, z1, z2]) rfl ?_
      exact ⟨⟨b.limit, .slice none 0 0, [], .slice none 0 0, []⟩, rfl, OwnBuf.empty _ _ _, HSX.out.symm, hb9⟩
    · have hnil : sortE b.bu.all ≠ [] := by rw [← HE.out]; intro h; exact hl (List.map_eq_nil_iff.1 h)
      have HSX : Hid (SL = ⟨b.limit, [], [sortE b.bu.all]⟩) := Lib.hid (HSL.out.trans ((packB_one hnil).trans (by rw [HLI.out])))
      have hpos : 0 < l.length := List.length_pos_iff.2 hl
      have hc : OwnE w2 (w1.heap.size + 1) (.slice A l.length c) l := HOW.out.low (by simp)
      have HOB := Lib.hid (OwnBuf.one b.limit hc rfl (by omega))
      have j1 := k1.alloc (.cells #[.slice A l.length c] 22)
      have j2 := k2.alloc (.cells #[.slice A l.length c] 22)
      have q2 := j2.free 2
      have qq2 := j2.cell 2 _ rfl
      have KS := j2.set_ 2 (.slice (some ⟨w2.heap.size, 0, none⟩) 1 1)
      have y0 := KS.cell 0 (.int .i64 b.limit) rfl
      have y1 := KS.cell 1 (.slice none 0 0) rfl
      have y2 := KS.cell 2 (.slice (some ⟨w2.heap.size, 0, none⟩) 1 1) rfl
      have KR := j1.far (p := ⟨w1.heap.size, 2, none⟩) (by show w.heap.size + 1 ≠ w1.heap.size; omega) (.slice (some ⟨w2.heap.size, 0, none⟩) 1 1)
      have f0 := KR.free 0
      have f1 := KR.free 1
      have f2 := KR.free 2
      have r0 := KR.cell 0 _ rfl
      have r1 := KR.cell 1 _ rfl
      have r2 := KR.cell 2 _ rfl
      have KZ := KR.set3 (.int .i64 b.limit) (.slice none 0 0) (.slice (some ⟨w2.heap.size, 0, none⟩) 1 1)
      have z0 := KZ.cell 0 _ rfl
      have z1 := KZ.cell 1 _ rfl
      have z2 := KZ.cell 2 _ rfl
      have hb9 := below_set3 ((below_trans HBW2.out (below_alloc w2 (.cells #[.slice A l.length c] 22))).setCell (p := ⟨w1.heap.size, 2, none⟩) (by show w.heap.size ≤ w1.heap.size; omega) (.slice (some ⟨w2.heap.size, 0, none⟩) 1 1)) (g := w.heap.size + 1) (by omega) (.int .i64 b.limit) (.slice none 0 0) (.slice (some ⟨w2.heap.size, 0, none⟩) 1 1)
      have HO9 := Lib.hid (((HOB.out.setFar (p := ⟨w1.heap.size, 2, none⟩) (by show w1.heap.size < w1.heap.size + 1; omega) (.slice (some ⟨w2.heap.size, 0, none⟩) 1 1)).set3 (g := w.heap.size + 1) (by omega) (.int .i64 b.limit) (.slice none 0 0) (.slice (some ⟨w2.heap.size, 0, none⟩) 1 1)).low (base' := w.heap.size) (by omega))
      clear hnil k1 k2 KZ KS KR j1 j2 HSL hc HOB HOW hS2 hlt1
      go_wp2
      refine bodyPost_ret (v := .tuple #[.agg #[.int .i64 b.limit, .slice none 0 0, .slice (some ⟨w2.heap.size, 0, none⟩) 1 1], .int .i64 0]) (by simp [results, Tryd.results14, go_sem, z0, z1, z2]) rfl ?_
      exact ⟨⟨b.limit, .slice none 0 0, [], .slice (some ⟨w2.heap.size, 0, none⟩) 1 1, [(.slice A l.length c, l)]⟩, rfl, HO9.out, by rw [HSX.out, ← HE.out]; rfl, hb9⟩
  · have HSL : Hid (SL = noB) := Lib.hid (hSL.symm.trans (if_neg hck))
    have hb0 := bneT hck
    have KZ := K1.set3 (.int .i64 0) (.slice none 0 0) (.slice none 0 0)
    have z0 := KZ.cell 0 _ rfl
    have z1 := KZ.cell 1 _ rfl
    have z2 := KZ.cell 2 _ rfl
    have hb9 := below_set3 hbw1 (g := w.heap.size + 1) (by omega) (.int .i64 0) (.slice none 0 0) (.slice none 0 0)
    clear hSL HGD K0 K1 KZ
    go_wp2
    refine bodyPost_ret (v := .tuple #[.agg #[.int .i64 0, .slice none 0 0, .slice none 0 0], .int .i64 CK]) (by simp [results, Tryd.results14, go_sem, z0, z1, z2]) rfl ?_
    exact ⟨zB, rfl, OwnBuf.empty _ _ _, HSL.out.symm, hb9⟩

/-! ### Drop -/
set_option maxHeartbeats 2000000 in
theorem drop1_any (c : Nat) (upto : Int) (x : Ent) (W : World) (P : Nat) (hP : Blk W P 28 #[.string (str x.e.key), .int .i64 x.e.t, .int .i64 x.e.s, x.v, .bool x.e.met]) (hc : Blk W c 3 #[.int .i64 upto]) :
    Calls Tryd.prog 36 #[.pointer (some ⟨P, 0, none⟩), .pointer (some ⟨c, 0, none⟩)] W fun e w2 => e = .returned (.bool (decide (upto < x.e.t))) ∧ Blk w2 P 28 #[.string (str x.e.key), .int .i64 x.e.t, .int .i64 x.e.s, x.v, .bool x.e.met] ∧ W.grownBy w2 (some P) := by
  have x1 := hP.cell 1 _ rfl
  have c0 := hc.cell 0 _ rfl
  have H := Lib.hid hP
  clear hP hc
  go_enter Tryd.func36, Tryd.ntmps36
  go_wp2_with fail
  go_quiet (fail)
  go_wp2
  go_ret
  exact ⟨rfl, H.out, ⟨rfl, rfl, rfl, Nat.le_refl _, fun _ _ _ => rfl⟩⟩
theorem dropB_sift (b : Bu) (upto : Int) : dropB b upto = siftB b (siftF (fun e => decide (upto < e.t)) (fun e => e.met)) := by
  unfold dropB
  congr 1
  funext e
  unfold siftF
  by_cases h : upto < e.t
  · rw [if_pos h, if_pos (decide_eq_true h)]
  · rw [if_neg h, if_neg (by show ¬ decide (upto < e.t) = true; simp; omega)]
theorem siftDrop_any (b : Buf) (upto : Int) (c : Nat) (w : World) (hb : b.ok w) (hg : GoodB b.bu) (hc : Blk w c 3 #[.int .i64 upto]) :
    Calls Tryd.prog 20 #[b.agg, .func (.func 36) #[] #[.pointer (some ⟨c, 0, none⟩)]] w fun e w' => ∃ b' : Buf, e = .returned b'.agg ∧ OwnBuf w' (w.heap.size + 5) b' ∧ b'.bu = dropB b.bu upto ∧ Below w.heap.size w w' ∧ w.heap.size + 5 ≤ w'.heap.size := by
  have h := sift_any 36 #[.pointer (some ⟨c, 0, none⟩)] (fun e => decide (upto < e.t)) (fun e => e.met) b w hb (fun k => by have h1 := part_len b k; have h2 := hg.few; omega) (by have := good_runs hg; omega) (fun k x hx => okE_short (hg.ok _ (part_mem hx)))
    (enters_of Tryd.func36 (by kernel_rfl) rfl) (fun x W P h1 _ _ hB => drop1_any c upto x W P hB (hc.below h1))
  rw [← dropB_sift] at h
  exact h

set_option maxHeartbeats 8000000 in
set_option maxRecDepth 10000 in
theorem drop_any (b : Buf) (upto : Int) (w : World) (hb : b.ok w) (hf : b.fit) (hm : Mx w) :
    Calls Tryd.prog 13 #[b.agg, .int .i64 upto] w fun e w' => ∃ b' : Buf, e = .returned (.tuple #[b'.agg, .int .i64 (checkB b.bu)]) ∧ OwnBuf w' w.heap.size b' ∧ b'.bu = (if checkB b.bu = 0 then dropB b.bu upto else noB) ∧ Below w.heap.size w w' := by
  have HO := Lib.hid hb
  have HCH := Lib.hid (fun w' (h : Below w.heap.size w w') => check_any b w' (hb.below h) hf (hm.below h))
  have HSI := Lib.hid (fun (hg : GoodB b.bu) w' (h : Below w.heap.size w w') hc => siftDrop_any b upto (w.heap.size + 1) w' (hb.below h) hg hc)
  have HGD := Lib.hid (check_zeroB (b := b.bu))
  generalize checkB b.bu = CK at HCH HGD ⊢
  generalize hSL : (if CK = 0 then dropB b.bu upto else noB) = SL
  obtain ⟨Av, cv, hvb, -⟩ := id hb.mem.sl
  obtain ⟨Ar, cr, hvr, -⟩ := id hb.sl
  unfold Buf.agg at HCH HSI ⊢
  rw [hvb, hvr] at HCH HSI
  rw [hvb, hvr]
  have HK0 := Lib.hid (((Blk.new w 25 #[.int .i64 b.limit, .slice Av b.mem.length cv, .slice Ar b.runs.length cr]).alloc (.cells #[.int .i64 upto] 3)).alloc (.cells #[.int .i64 0, .slice none 0 0, .slice none 0 0] 25))
  have B1 := (new_second w 3 #[.int .i64 upto] (.cells #[.int .i64 b.limit, .slice Av b.mem.length cv, .slice Ar b.runs.length cr] 25)).alloc (.cells #[.int .i64 0, .slice none 0 0, .slice none 0 0] 25)
  have HK1 := Lib.hid B1
  have HK2 := Lib.hid (show Blk (((w.alloc (.cells #[.int .i64 b.limit, .slice Av b.mem.length cv, .slice Ar b.runs.length cr] 25)).alloc (.cells #[.int .i64 upto] 3)).alloc (.cells #[.int .i64 0, .slice none 0 0, .slice none 0 0] 25)) (w.heap.size + 1 + 1) 25 #[.int .i64 0, .slice none 0 0, .slice none 0 0] from by
    have := Blk.new ((w.alloc (.cells #[.int .i64 b.limit, .slice Av b.mem.length cv, .slice Ar b.runs.length cr] 25)).alloc (.cells #[.int .i64 upto] 3)) 25 #[.int .i64 0, .slice none 0 0, .slice none 0 0]
    simpa using this)
  have hB := below_trans (below_trans (below_alloc w (.cells #[.int .i64 b.limit, .slice Av b.mem.length cv, .slice Ar b.runs.length cr] 25)) (below_alloc _ (.cells #[.int .i64 upto] 3))) (below_alloc _ (.cells #[.int .i64 0, .slice none 0 0, .slice none 0 0] 25))
  have y0 := HK0.out.cell 0 _ rfl
  have y1 := HK0.out.cell 1 _ rfl
  have y2 := HK0.out.cell 2 _ rfl
  clear hb hf hm hvb hvr B1
  go_enter Tryd.func13, Tryd.ntmps13
  go_wp2_with fail
  refine (HCH.out _ hB).mono ?_
  rintro e w1 ⟨rfl, hb1⟩
  have hbw1 := below_trans hB hb1
  have K0 := HK0.out.below hb1
  have K1 := HK1.out.below hb1
  have K2 := HK2.out.below hb1
  clear y0 y1 y2 hB hb1 HK0 HK1 HK2 HCH
  by_cases hck : CK = 0
  · have HSX := Lib.hid (HSI.out (HGD.out.1 hck) _ hbw1 K1)
    have HSL : Hid (SL = dropB b.bu upto) := Lib.hid (hSL.symm.trans (if_pos hck))
    subst hck
    have y0 := K0.cell 0 _ rfl
    have y1 := K0.cell 1 _ rfl
    have y2 := K0.cell 2 _ rfl
    have HK2 := Lib.hid K2
    clear HGD hSL HSI K0 K1 K2
    go_wp2_with fail
    refine HSX.out.mono ?_
    rintro e w2 ⟨b2, rfl, hob2, hbu2, hb2, -⟩
    have hbw2 := below_trans hbw1 hb2
    have hs1 := hbw1.size
    obtain ⟨Am, cm, hvm, -⟩ := id hob2.ok.mem.sl
    obtain ⟨Ar2, cr2, hvr2, -⟩ := id hob2.ok.sl
    have HVM := Lib.hid hvm
    have HVR := Lib.hid hvr2
    have hE : b2.bu = SL := by rw [hbu2, HSL.out]
    rw [hvm, hvr2]
    have K2 := HK2.out.below hb2
    have hlt := HK2.out.lt
    have f0 := K2.free 0
    have f1 := K2.free 1
    have f2 := K2.free 2
    have r0 := K2.cell 0 _ rfl
    have r1 := K2.cell 1 _ rfl
    have r2 := K2.cell 2 _ rfl
    have KZ := K2.set3 (.int .i64 b2.limit) (.slice Am b2.mem.length cm) (.slice Ar2 b2.runs.length cr2)
    have z0 := KZ.cell 0 _ rfl
    have z1 := KZ.cell 1 _ rfl
    have z2 := KZ.cell 2 _ rfl
    have hb9 := below_set3 hbw2 (g := w.heap.size + 1 + 1) (by omega) (.int .i64 b2.limit) (.slice Am b2.mem.length cm) (.slice Ar2 b2.runs.length cr2)
    have hob9 := (hob2.set3 (g := w.heap.size + 1 + 1) (by omega) (.int .i64 b2.limit) (.slice Am b2.mem.length cm) (.slice Ar2 b2.runs.length cr2)).low (base' := w.heap.size) (by omega)
    have HOB := Lib.hid hob9
    clear y0 y1 y2 HSX HSL hvm hvr2 K2 KZ hob9 hob2 hbu2 hb2 HK2
    go_wp2
    refine bodyPost_ret (v := .tuple #[.agg #[.int .i64 b2.limit, .slice Am b2.mem.length cm, .slice Ar2 b2.runs.length cr2], .int .i64 0]) (by simp [results, Tryd.results13, go_sem, z0, z1, z2]) rfl ?_
    exact ⟨b2, by rw [HVM.out, HVR.out], HOB.out, hE, hb9⟩
  · have HSL : Hid (SL = noB) := Lib.hid (hSL.symm.trans (if_neg hck))
    have hb0 := bneT hck
    have f0 := K2.free 0
    have f1 := K2.free 1
    have f2 := K2.free 2
    have r0 := K2.cell 0 _ rfl
    have r1 := K2.cell 1 _ rfl
    have r2 := K2.cell 2 _ rfl
    have KZ := K2.set3 (.int .i64 0) (.slice none 0 0) (.slice none 0 0)
    have z0 := KZ.cell 0 _ rfl
    have z1 := KZ.cell 1 _ rfl
    have z2 := KZ.cell 2 _ rfl
    have hb9 := below_set3 hbw1 (g := w.heap.size + 1 + 1) (by omega) (.int .i64 0) (.slice none 0 0) (.slice none 0 0)
    clear hSL HGD K0 K1 K2 KZ HSI
    go_wp2
    refine bodyPost_ret (v := .tuple #[.agg #[.int .i64 0, .slice none 0 0, .slice none 0 0], .int .i64 CK]) (by simp [results, Tryd.results13, go_sem, z0, z1, z2]) rfl ?_
    exact ⟨zB, rfl, OwnBuf.empty _ _ _, HSL.out.symm, hb9⟩
end Go.Proofs.YteabfalklgffmaaDoor
