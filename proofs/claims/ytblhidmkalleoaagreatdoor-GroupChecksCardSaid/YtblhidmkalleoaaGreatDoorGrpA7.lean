/-
  Piles: view. Views: the walks of Check, and of the reference's CheckView. The moves of a walk through a region that draws its order, in few words. Views: the walk of the reference's CheckView. The reference's place: where a row stands in a view, or would stand. The reference's more: laws on a view of one's own. The reference's more: a row laid in.
-/
import Derived.Test.YtblhidmkalleoaaGreatDoorGrpA6
import Derived.Test.YtblhidmkalleoaaGreatDoorValue12
import Derived.Test.YtblhidmkalleoaaGreatDoorGrpA4
import Derived.Test.YtblhidmkalleoaaGreatDoorGrpA1
import Derived.Test.YtblhidmkalleoaaGreatDoorGrpA5
import Derived.Test.YtblhidmkalleoaaGreatDoorGrpA3
import Derived.Laws.CopyOwn
set_option linter.unusedSimpArgs false
set_option linter.unusedVariables false
namespace Go.Proofs.YtblhidmkalleoaaGreatDoor
open Go.RowKit Go.Maps Go.Sort

theorem back_good {r : List Val} (h : GoodR r) : backR (str (keyRow r)).toList = (r, 0) := by rw [str_toList]; exact backR_yes (dec_make r 8 h.few h.good)
theorem look_at {A : AV} {k : Nat} {p : List Val × Int} (h : Rises A) (hk : A[k]? = some p) : lookA A p.1 = p.2 := by
  induction A generalizing k with
  | nil => simp at hk
  | cons x t ih =>
    obtain ⟨x, m⟩ := x
    have hx : GoodR x := h.good (x, m) (by simp)
    cases k with
    | zero =>
      simp at hk
      subst hk
      unfold lookA
      rw [if_pos (rowsF_self hx)]
    | succ k =>
      have hm := List.mem_of_getElem? (by simpa using hk)
      have := (List.pairwise_cons.1 h.rise).1 p hm
      simp only at this
      unfold lookA
      rw [if_neg (by omega)]
      exact ih h.tail (by simpa using hk)

theorem own_le {w : World} {a b : Nat} {e : TypeId} {size n : Nat} {v : Value} {xs : List Value} (h : w.ownsRow b e size v n xs) (hab : a ≤ b) : w.ownsRow a e size v n xs := by
  refine ⟨h.1, ?_⟩
  rcases h.2 with h' | ⟨g, cap, cur, h', hb, r⟩
  · exact .inl h'
  · exact .inr ⟨g, cap, cur, h', Nat.le_trans hab hb, r⟩
theorem OwnV.le {w : World} {a b : Nat} {v : Value} {l : List Cnt} (h : OwnV w b v l) (hab : a ≤ b) : OwnV w a v l := ⟨own_le h.own hab, h.rows, h.far⟩

set_option maxHeartbeats 4000000 in
set_option maxRecDepth 100000 in
theorem view_any {M N : Nat} {A : AV} (w : World) (hp : Pile w M N A) (hA : Rises A) (hn : A.length ≤ 1000000) :
    Calls Tryz.prog 85 #[.map (some M)] w fun e w' => ∃ v l, e = .returned v ∧ OwnV w' w.heap.size v l ∧ av l = A ∧ Below w.heap.size w w' := by
  have HA := Lib.hid hA
  have HP := Lib.hid hp
  clear hA
  go_enter Tryz.func85, Tryz.ntmps85
  go_wp2_with fail
  refine (keys_any _ hp HA.out hn).mono ?_
  rintro e w1 ⟨vk, rfl, hown, hb1⟩
  have HS := Lib.hid (Sl.of_own hown)
  rw [show A.length = (A.map fun p => Value.string (str (keyRow p.1))).length from by rw [List.length_map]] at HS
  clear hown hp
  generalize hks : (A.map fun p => Value.string (str (keyRow p.1))) = ks at HS
  have HKS := Lib.hid hks
  have hkl : ks.length = A.length := by rw [← hks, List.length_map]
  obtain ⟨Ak, ck, rfl, hc1, hc2, -, hcell⟩ := id HS.out
  have HC := Lib.hid hcell
  have HKL := Lib.hid hkl
  unfold maxLen at hc2
  rw [hkl] at hc1
  clear hks hcell hkl
  rw [HKL.out]
  go_wp2_with fail
  go_loopw [3, 5, 6, 7, 11] (fun out _ _ _ i wr => ∃ (k : Nat) (u : Value) (s : List Cnt), u = out ∧ k ≤ A.length ∧ i = .int .i64 k ∧ s.length = k ∧ Hid (av s = A.take k) ∧ Hid (OwnV wr w1.heap.size u s) ∧ Below w1.heap.size w1 wr) (fun _ _ _ _ i _ => A.length - (intOf i).toNat)
  case atStart => exact ⟨0, _, [], rfl, by omega, rfl, rfl, rfl, OwnV.nil w1 w1.heap.size, Below.refl _ _⟩
  case round =>
    obtain ⟨k, u, s, rfl, hk, rfl, hsl, HAV, HO, hbw⟩ := hrel
    by_cases hlt : k < A.length
    · have hx := List.getElem?_eq_getElem (l := A) hlt
      generalize A[k] = x at hx
      have HG := Lib.hid (HA.out.good x (List.mem_of_getElem? hx))
      have HLK := Lib.hid (look_at HA.out hx)
      have HT := Lib.hid (show A.take (k + 1) = A.take k ++ [x] from by rw [List.take_add_one, hx]; rfl)
      obtain ⟨g, off, rfl, hcc⟩ := HC.out (by intro h0; have := HKL.out; rw [h0] at this; simp at this; omega)
      have d1 := cell_below hbw (hcc k (.string (str (keyRow x.1))) (by rw [← HKS.out, List.getElem?_map, hx]; rfl))
      have HKY := Lib.hid (keyS HG.out)
      have HBK := Lib.hid (back_good HG.out)
      have hsz : (str (keyRow x.1)).size ≤ 4611686018427387904 := by rw [str_size]; have := keyRow_short HG.out; omega
      have HWP := Lib.hid (HP.out.below (below_trans hb1 hbw))
      have HGA := Lib.hid HA.out.good
      generalize str (keyRow x.1) = ky at d1 HKY HBK hsz
      clear hx hcc
      have k0 : (0 : Int) ≤ (k : Int) := by omega
      have k1 : (k : Int) < (A.length : Int) := by omega
      subst hsl
      have hu : Hid (∀ j, u.ownBlock = some j → j < wr.heap.size) := Lib.hid (own_lt HO.out.own)
      go_wp2_with fail
      refine (back_any2 _ _ hsz).mono ?_
      rw [HBK.out]
      rintro e w2 ⟨vb, rfl, hs2, hf2, hb2⟩
      have HS2 := Lib.hid hs2
      have HF2 := Lib.hid hf2
      obtain ⟨A2, c2, rfl, -⟩ := id hs2
      have hbw2 := below_trans hbw hb2
      obtain ⟨n2, -, hmap⟩ := HWP.out.below hb2
      clear hs2 hf2
      go_wp2_with (first
        | (at_lookup; refine wpList_lookup_own_int _ rfl _ _ 137 rfl 9 3 .i64 lawS Tryz.underlying137 Tryz.underlying3 (zeroS _) M n2 _ rfl hmap _ _ rfl HKY.out ?_; intro c hat hwc; obtain rfl := lit_inj (hat.symm.trans (mkD_at HGA.out HG.out)); rw [HLK.out]; clear hat hwc)
        | (at_builtin; refine wpList_app rfl (.tmp 20) (.tmp 26) 27 rfl w1.heap.size 115 2 32 Tryz.underlying27 cntI u s.length _ rfl ((HO.out.below hb2).alloc _).own _ 1 (Cnt.cells ⟨.slice A2 x.1.length c2, x.1, x.2⟩) rfl (one_cnt w2 ⟨.slice A2 x.1.length c2, x.1, x.2⟩) rfl (cnt_one HS2.out) (by unfold maxLen; omega) (by omega) (by have := hbw2.size; simp; omega) ?_; intro v4 w4 hown4 hg4 hat4))
      have HN : Hid (OwnV w4 w1.heap.size v4 (s ++ [⟨.slice A2 x.1.length c2, x.1, x.2⟩])) := Lib.hid (((HO.out.below hb2).alloc _).snoc hown4 hg4 hat4 (HS2.out.below (below_alloc _ _)) (fun j hj => ⟨Nat.lt_of_lt_of_le (HF2.out j hj).2 (by simp), fun e => Nat.lt_irrefl _ (Nat.lt_of_lt_of_le (hu.out j e) (HF2.out j hj).1)⟩))
      have HAN : Hid (av (s ++ [⟨.slice A2 x.1.length c2, x.1, x.2⟩]) = A.take (s.length + 1)) := Lib.hid (by rw [HT.out, ← HAV.out]; simp [av])
      have hbw4 : Below w1.heap.size w1 w4 := below_grown (hbw2.alloc hbw2.size _) hg4 (own_ge HO.out.own)
      clear hown4 hg4 hat4 hmap
      go_wp2
      go_roundw
      case rel => exact ⟨s.length + 1, _, _, rfl, by omega, by go_num, by simp, HAN.out, HN.out, hbw4⟩
      case measure => simp [intOf]; omega
    · obtain rfl : k = A.length := by omega
      go_wp2
      go_ret
      refine ⟨_, s, rfl, HO.out.le hb1.size, ?_, below_trans hb1 hbw⟩
      rw [HAV.out, List.take_of_length_le (Nat.le_refl _)]

end Go.Proofs.YtblhidmkalleoaaGreatDoor
namespace Go.Proofs.YtblhidmkalleoaaGreatDoor
open Go.RowKit

set_option maxHeartbeats 8000000 in
set_option maxRecDepth 10000 in
theorem checkView_any (v : Value) (l : List Cnt) (w : World) (h : View w v l) (hf : FineV l) (hm : Mx w) :
    Calls Tryz.prog 80 #[v] w fun e w' => e = .returned (.int .i64 (chkV l)) ∧ Below w.heap.size w w' := by
  have HV := Lib.hid h
  have HF := Lib.hid hf
  have HM := Lib.hid hm
  obtain ⟨A, c, rfl, h1, h2, -⟩ := h.sl
  clear h hf hm
  unfold maxLen at h2
  by_cases hn : 4096 < l.length
  · have e1 := Lib.hid (show chkV l = 2 from if_pos hn)
    go_enter Tryz.func80, Tryz.ntmps80
    go_wp2
    go_ret
    exact ⟨ret_int (by rw [e1.out]), Below.refl _ _⟩
  · have HBAD := Lib.hid (fun k => chk_bad (l := l) (k := k) hn)
    have HGOOD := Lib.hid (chk_good (l := l) hn)
    generalize chkV l = R at HBAD HGOOD ⊢
    go_enter Tryz.func80, Tryz.ntmps80
    go_wp2_with fail
    go_loopw [3, 4, 5, 6, 7, 13] (fun last _ _ _ _ i wr => ∃ k : Nat, k ≤ l.length ∧ i = .int .i64 k ∧ last = .string (lastKey l k) ∧ Hid (∀ j ∈ (List.range l.length).take k, okAt l j = true) ∧ Below w.heap.size w wr) (fun _ _ _ _ _ i _ => l.length - (intOf i).toNat)
    case atStart => exact ⟨0, by omega, rfl, rfl, by simp [Hid], Below.refl _ _⟩
    case round =>
      obtain ⟨k, hk, rfl, rfl, H, hbw⟩ := hrel
      by_cases hlt : k < l.length
      · have hx := List.getElem?_eq_getElem (l := l) hlt
        generalize l[k] = x at hx
        obtain ⟨g, off, rfl, -, hc⟩ := cnt_at HV.out.sl rfl hx
        obtain ⟨d1, d2⟩ := hc _ hbw
        have hmem := List.mem_of_getElem? hx
        have HRW := Lib.hid (HV.out.rows x hmem)
        have HFX := Lib.hid (HF.out.rows x hmem)
        have hxn := HF.out.nums x hmem
        have HX := Lib.hid hx
        clear hx hc hmem
        obtain ⟨xv, xr, xn⟩ := x
        simp only at d1 d2 HRW HFX hxn
        obtain ⟨Ax, cx, rfl, -⟩ := id HRW.out
        have hbw2 := hbw.alloc hbw.size (.cells #[.slice Ax xr.length cx, .int .i64 xn] 115)
        have HSX := Lib.hid (HRW.out.below hbw2)
        have kb := (Blk.new wr 115 #[.slice Ax xr.length cx, .int .i64 xn])
        generalize hla : lastKey l k = la
        have HLA := Lib.hid hla
        clear hla
        by_cases hq : keyErr xr = 0
        · have HKE : Hid (keyR xr = (str (keyRow xr), 0)) := Lib.hid (if_neg (by rw [hq]; simp))
          have HGX := Lib.hid (goodR_of HFX.out hq)
          have hokc : okC ⟨.slice Ax xr.length cx, xr, xn⟩ = btw xn 1 1073741824 := by simp [okC, hq]
          have hD : xn < 1 ∨ (1 ≤ xn ∧ 1073741824 < xn) ∨ (1 ≤ xn ∧ xn ≤ 1073741824) := by omega
          have HNL : Hid (lastKey l (k + 1) = str (keyRow xr)) := Lib.hid (by simp [lastKey, HX.out])
          rcases hD with hn1 | ⟨hn1, hn2⟩ | ⟨hn1, hn2⟩
          · have HB0 := Lib.hid (btw_no (n := xn) (lo := 1) (hi := 1073741824) (by omega))
            have EE := Lib.hid (HBAD.out k hlt (by cases k with | zero => rw [okAt_zero HX.out, hokc, HB0.out] | succ k => rw [okAt_succ HX.out (List.getElem?_eq_getElem (show k < l.length by omega)), hokc, HB0.out]; rfl))
            clear HGX hokc HNL HB0
            go_wp2_with fail
            refine (key_any _ xr _ HSX.out HFX.out (HM.out.below hbw2)).mono ?_
            rw [HKE.out]
            rintro e w2 ⟨rfl, hb2⟩
            have y1 := (kb.below hb2).cell 1 _ rfl
            have hbw3 := below_trans hbw2 hb2
            go_wp2
            go_ret
            exact ⟨ret_int (by rw [EE.out]), hbw3⟩
          · have HB0 := Lib.hid (btw_no (n := xn) (lo := 1) (hi := 1073741824) (by omega))
            have EE := Lib.hid (HBAD.out k hlt (by cases k with | zero => rw [okAt_zero HX.out, hokc, HB0.out] | succ k => rw [okAt_succ HX.out (List.getElem?_eq_getElem (show k < l.length by omega)), hokc, HB0.out]; rfl))
            clear HGX hokc HNL HB0
            go_wp2_with fail
            refine (key_any _ xr _ HSX.out HFX.out (HM.out.below hbw2)).mono ?_
            rw [HKE.out]
            rintro e w2 ⟨rfl, hb2⟩
            have y1 := (kb.below hb2).cell 1 _ rfl
            have hbw3 := below_trans hbw2 hb2
            go_wp2
            go_ret
            exact ⟨ret_int (by rw [EE.out]), hbw3⟩
          · have HB0 := Lib.hid (btw_yes hn1 hn2)
            rcases Nat.eq_zero_or_pos k with hk0 | hpos
            · have hno : ¬ (0 : Int) < (k : Int) := by omega
              have hox : okAt l k = okC ⟨.slice Ax xr.length cx, xr, xn⟩ := by have := HX.out; rw [hk0] at this ⊢; exact okAt_zero this
              have HZ : Hid (∀ j ∈ (List.range l.length).take (k + 1), okAt l j = true) := Lib.hid (all_step (f := okAt l) H.out (range_at hlt) (by rw [hox, hokc, HB0.out]))
              clear hox hk0
              clear HGX hokc HB0
              go_wp2_with fail
              refine (key_any _ xr _ HSX.out HFX.out (HM.out.below hbw2)).mono ?_
              rw [HKE.out]
              rintro e w2 ⟨rfl, hb2⟩
              have y1 := (kb.below hb2).cell 1 _ rfl
              have hbw3 := below_trans hbw2 hb2
              go_wp2
              go_roundw
              case rel => exact ⟨k + 1, by omega, by go_num, by rw [HNL.out], HZ.out, hbw3⟩
              case measure => simp [intOf]; omega
            · obtain ⟨k, rfl⟩ : ∃ m, k = m + 1 := ⟨k - 1, by omega⟩
              have hkl : k < l.length := by omega
              have hd := List.getElem?_eq_getElem hkl
              generalize l[k] = d at hd
              have HGD : Hid (GoodR d.r) := by
                have := H.out k (by rw [List.mem_take_iff_getElem]; exact ⟨k, by simp; omega, by simp⟩)
                have hck : okC d = true := by
                  cases k with
                  | zero => rw [okAt_zero hd] at this; exact this
                  | succ k => rw [okAt_succ hd (List.getElem?_eq_getElem (show k < l.length by omega)), Bool.and_eq_true] at this; exact this.1
                unfold okC at hck
                rw [Bool.and_eq_true, beq_iff_eq] at hck
                exact Lib.hid (goodR_of (HF.out.rows d (List.mem_of_getElem? hd)) hck.1)
              have HLK : Hid (la = str (keyRow d.r)) := Lib.hid (by rw [← HLA.out]; simp [lastKey, hd])
              have l1 : Op.bytesLess (str (keyRow xr)).toList la.toList = decide (rowsF xr d.r < 0) := by rw [HLK.out]; exact str_less HGX.out HGD.out
              have l2 : ((str (keyRow xr)).toList == la.toList) = decide (rowsF xr d.r = 0) := by rw [HLK.out]; exact str_same HGX.out HGD.out
              have hpos' : (0 : Int) < ((k + 1 : Nat) : Int) := by omega
              have HFL := Lib.hid (rowsF_flip HGX.out HGD.out)
              have HOK := Lib.hid (okAt_succ HX.out hd)
              clear hd
              have hD : rowsF xr d.r < 0 ∨ rowsF xr d.r = 0 ∨ 0 < rowsF xr d.r := by omega
              rcases hD with hs | hs | hs
              · rw [decide_eq_true hs] at l1
                rw [decide_eq_false (by omega)] at l2
                have EE := Lib.hid (HBAD.out (k + 1) hlt (by rw [HOK.out, HFL.out, decide_eq_false (by omega), Bool.and_false]))
                generalize str (keyRow xr) = sx at HKE l1 l2
                clear HGX hokc HNL HB0 hs HLK HFL HOK
                go_wp2_with fail
                refine (key_any _ xr _ HSX.out HFX.out (HM.out.below hbw2)).mono ?_
                rw [HKE.out]
                rintro e w2 ⟨rfl, hb2⟩
                have y1 := (kb.below hb2).cell 1 _ rfl
                have hbw3 := below_trans hbw2 hb2
                go_wp2
                go_ret
                exact ⟨ret_int (by rw [EE.out]), hbw3⟩
              · rw [decide_eq_false (by omega)] at l1
                rw [decide_eq_true hs] at l2
                have EE := Lib.hid (HBAD.out (k + 1) hlt (by rw [HOK.out, HFL.out, decide_eq_false (by omega), Bool.and_false]))
                generalize str (keyRow xr) = sx at HKE l1 l2
                clear HGX hokc HNL HB0 hs HLK HFL HOK
                go_wp2_with fail
                refine (key_any _ xr _ HSX.out HFX.out (HM.out.below hbw2)).mono ?_
                rw [HKE.out]
                rintro e w2 ⟨rfl, hb2⟩
                have y1 := (kb.below hb2).cell 1 _ rfl
                have hbw3 := below_trans hbw2 hb2
                go_wp2
                go_ret
                exact ⟨ret_int (by rw [EE.out]), hbw3⟩
              · rw [decide_eq_false (by omega)] at l1
                rw [decide_eq_false (by omega)] at l2
                have HZ : Hid (∀ j ∈ (List.range l.length).take (k + 1 + 1), okAt l j = true) := Lib.hid (all_step (f := okAt l) H.out (range_at hlt) (by rw [HOK.out, hokc, HB0.out, HFL.out, decide_eq_true (by omega)]; rfl))
                generalize str (keyRow xr) = sx at HKE l1 l2 HNL
                clear HGX hokc HB0 hs HLK HFL HOK
                go_wp2_with fail
                refine (key_any _ xr _ HSX.out HFX.out (HM.out.below hbw2)).mono ?_
                rw [HKE.out]
                rintro e w2 ⟨rfl, hb2⟩
                have y1 := (kb.below hb2).cell 1 _ rfl
                have hbw3 := below_trans hbw2 hb2
                go_wp2
                go_roundw
                case rel => exact ⟨k + 1 + 1, by omega, by go_num, by rw [HNL.out], HZ.out, hbw3⟩
                case measure => simp [intOf]; omega
        · have HKE : Hid (keyR xr = (⟨#[]⟩, keyErr xr)) := Lib.hid (if_pos hq)
          have hb' := bneT hq
          have EE := Lib.hid (HBAD.out k hlt (by
            have hc0 : okC ⟨.slice Ax xr.length cx, xr, xn⟩ = false := by simp [okC, hq]
            cases k with
            | zero => rw [okAt_zero HX.out, hc0]
            | succ k => rw [okAt_succ HX.out (List.getElem?_eq_getElem (show k < l.length by omega)), hc0]; rfl))
          clear hq
          go_wp2_with fail
          refine (key_any _ xr _ HSX.out HFX.out (HM.out.below hbw2)).mono ?_
          rw [HKE.out]
          rintro e w2 ⟨rfl, hb2⟩
          have y1 := (kb.below hb2).cell 1 _ rfl
          have hbw3 := below_trans hbw2 hb2
          go_wp2
          go_ret
          exact ⟨ret_int (by rw [EE.out]), hbw3⟩
      · obtain rfl : k = l.length := by omega
        have EE := Lib.hid (HGOOD.out H.out)
        generalize lastKey l l.length = la
        go_wp2
        go_ret
        exact ⟨ret_int (by rw [EE.out]), hbw⟩

end Go.Proofs.YtblhidmkalleoaaGreatDoor
namespace Go.Proofs.YtblhidmkalleoaaGreatDoor
open Go.RowKit

section
variable {P : Program} {ops : Array Oper} {Q : Exit → Act → World → Prop} {md : Region.Mode} {S : World → Prop}
/-- Operation i is taken first, and yields a value. -/
theorem tk (i : Nat) {oi : Oper} {v : Value} {fuel : Nat} {listed listed' : Array Bool} {a a' : Act} {w : World}
    (h : wpAnyH P md ops Q S fuel listed' a' w)
    (hi : ops[i]? = some oi := by simp only [List.getElem?_toArray, List.getElem?_cons_succ, List.getElem?_cons_zero]; rfl)
    (hs : Region.noSelect ops = true := by kernel_rfl) (hf : Region.free md ops listed i = true := by kernel_rfl) (hr : (Region.ready md ops listed).contains i = true := by kernel_rfl)
    (hQ : ∀ c a w, Q (.panic c) (a.put oi.dst v) w → Q (.panic c) a w := by intro _ _ _ h; exact h)
    (hw : Region.wanted oi (yielded ops a.tmps) = true := by kernel_rfl)
    (hy : ∀ w, S w → (execOp a.eval oi).run P w = .ok (.value v) w := by (intro w hSw; (try dsimp only at hSw); go_simp; try with_reducible rfl))
    (hS : S w := by assumption)
    (hl : listed.setIfInBounds i true = listed' := by (try simp only [List.setIfInBounds_toArray, List.set_cons_zero, List.set_cons_succ]); exact rfl)
    (ha : a.put oi.dst v = a' := by (try simp only [Act.put, List.setIfInBounds_toArray, List.set_cons_zero, List.set_cons_succ]); exact rfl) : wpAnyH P md ops Q S (fuel + 1) listed a w :=
  wpAnyH_take hi hs hf hr hQ (.inl ⟨hw, hy⟩) hS (hl ▸ ha ▸ h)
/-- Operation i is not wanted. -/
theorem tn (i : Nat) {oi : Oper} {fuel : Nat} {listed listed' : Array Bool} {a a' : Act} {w : World}
    (h : wpAnyH P md ops Q S fuel listed' a' w)
    (hi : ops[i]? = some oi := by simp only [List.getElem?_toArray, List.getElem?_cons_succ, List.getElem?_cons_zero]; rfl)
    (hs : Region.noSelect ops = true := by kernel_rfl) (hf : Region.free md ops listed i = true := by kernel_rfl) (hr : (Region.ready md ops listed).contains i = true := by kernel_rfl)
    (hQ : ∀ c a w, Q (.panic c) (a.put oi.dst undef) w → Q (.panic c) a w := by intro _ _ _ h; exact h)
    (hw : Region.wanted oi (yielded ops a.tmps) = false := by kernel_rfl)
    (hS : S w := by assumption)
    (hl : listed.setIfInBounds i true = listed' := by (try simp only [List.setIfInBounds_toArray, List.set_cons_zero, List.set_cons_succ]); exact rfl)
    (ha : a.put oi.dst undef = a' := by (try simp only [Act.put, List.setIfInBounds_toArray, List.set_cons_zero, List.set_cons_succ]); exact rfl) : wpAnyH P md ops Q S (fuel + 1) listed a w :=
  wpAnyH_take hi hs hf hr hQ (.inr ⟨hw, rfl⟩) hS (hl ▸ ha ▸ h)
/-- Operation i alone may come up: a call, an alloc, a store. -/
theorem tc (i : Nat) {oi : Oper} {fuel : Nat} {listed listed' : Array Bool} {a : Act} {w : World}
    (h : ∀ K, Hid (∀ a' w', S w' → (S w' → wpAnyH P md ops Q S fuel listed' a' w') → K a' w') → (if Region.wanted oi (yielded ops a.tmps) = true then oi.wp P a w K Q else K (a.put oi.dst undef) w))
    (hi : ops[i]? = some oi := by simp only [List.getElem?_toArray, List.getElem?_cons_succ, List.getElem?_cons_zero]; rfl)
    (hr : Region.ready md ops listed = [i] := by kernel_rfl)
    (hl : listed.setIfInBounds i true = listed' := by (try simp only [List.setIfInBounds_toArray, List.set_cons_zero, List.set_cons_succ]); exact rfl) : wpAnyH P md ops Q S (fuel + 1) listed a w := by
  refine wpAnyH_ready (rs := [i]) hr (by simp) (AllReadyH.cons hi (fun K hK => ?_) AllReadyH.nil)
  exact h K (Lib.hid fun a' w' h1 h2 => hK.out _ _ h1 (fun h3 => hl ▸ h2 h3))
/-- Two may come up, i or j. -/
theorem tc2 (i j : Nat) {oi oj : Oper} {fuel : Nat} {listed l1 l2 : Array Bool} {a : Act} {w : World}
    (h1 : ∀ K, Hid (∀ a' w', S w' → (S w' → wpAnyH P md ops Q S fuel l1 a' w') → K a' w') → (if Region.wanted oi (yielded ops a.tmps) = true then oi.wp P a w K Q else K (a.put oi.dst undef) w))
    (h2 : ∀ K, Hid (∀ a' w', S w' → (S w' → wpAnyH P md ops Q S fuel l2 a' w') → K a' w') → (if Region.wanted oj (yielded ops a.tmps) = true then oj.wp P a w K Q else K (a.put oj.dst undef) w))
    (hi : ops[i]? = some oi := by simp only [List.getElem?_toArray, List.getElem?_cons_succ, List.getElem?_cons_zero]; rfl)
    (hj : ops[j]? = some oj := by simp only [List.getElem?_toArray, List.getElem?_cons_succ, List.getElem?_cons_zero]; rfl)
    (hr : Region.ready md ops listed = [i, j] := by kernel_rfl)
    (e1 : listed.setIfInBounds i true = l1 := by (try simp only [List.setIfInBounds_toArray, List.set_cons_zero, List.set_cons_succ]); exact rfl)
    (e2 : listed.setIfInBounds j true = l2 := by (try simp only [List.setIfInBounds_toArray, List.set_cons_zero, List.set_cons_succ]); exact rfl) : wpAnyH P md ops Q S (fuel + 1) listed a w := by
  refine wpAnyH_ready (rs := [i, j]) hr (by simp) (AllReadyH.cons hi (fun K hK => ?_) (AllReadyH.cons hj (fun K hK => ?_) AllReadyH.nil))
  · exact h1 K (Lib.hid fun a' w' h1 h2 => hK.out _ _ h1 (fun h3 => e1 ▸ h2 h3))
  · exact h2 K (Lib.hid fun a' w' h1 h2 => hK.out _ _ h1 (fun h3 => e2 ▸ h2 h3))
/-- All have come up. -/
theorem td {fuel : Nat} {listed : Array Bool} {a : Act} {w : World} (h : Q .normal a w) (hr : Region.ready md ops listed = [] := by kernel_rfl) : wpAnyH P md ops Q S fuel listed a w := wpAnyH_done hr h _
end
/-- A region is begun. -/
theorem tr {P : Program} {ops : Array Oper} {Q : Exit → Act → World → Prop} (S : World → Prop) {id : Nat} {a : Act} {w : World} (hS : S w.drew) (h : S w.drew → wpAnyH P .any ops Q S ops.size (Array.replicate ops.size false) a w.drew) (hm : P.follows .mixedOrders = true := by kernel_rfl) : (Code.region id ops true).wp P Q a w :=
  wp_region_held_drew hm hS h
end Go.Proofs.YtblhidmkalleoaaGreatDoor
namespace Go.Proofs.YtblhidmkalleoaaGreatDoor
open Go.RowKit

end Go.Proofs.YtblhidmkalleoaaGreatDoor
namespace Go.Proofs.YtblhidmkalleoaaGreatDoor
open Go.RowKit

structure PlaceOf (A : AV) (r : List Val) (i : Nat) (is : Bool) : Prop where
  le : i ≤ A.length
  less : ∀ j p, j < i → A[j]? = some p → rowsF p.1 r < 0
  here : is = true → ∃ p, A[i]? = some p ∧ rowsF p.1 r = 0
  more : is = false → ∀ j p, i ≤ j → A[j]? = some p → 0 < rowsF p.1 r

theorem place_skip {A : AV} {x : List Val × Int} {r : List Val} {i : Nat} {is : Bool} (h : PlaceOf (x :: A) r (i + 1) is) : rowsF x.1 r < 0 ∧ PlaceOf A r i is :=
  ⟨h.less 0 x (by omega) rfl, ⟨by have := h.le; simp at this; omega, fun j p hj hp => h.less (j + 1) p (by omega) (by simpa using hp),
    fun hi => by obtain ⟨p, h1, h2⟩ := h.here hi; exact ⟨p, by simpa using h1, h2⟩, fun hi j p hj hp => h.more hi (j + 1) p (by omega) (by simpa using hp)⟩⟩
theorem look_more {A : AV} {r : List Val} (h : ∀ p ∈ A, 0 < rowsF p.1 r) : lookA A r = 0 ∧ hasA A r = false ∧ delA A r = A := by
  induction A with
  | nil => exact ⟨rfl, rfl, rfl⟩
  | cons x t ih =>
    obtain ⟨x, m⟩ := x
    have h0 : 0 < rowsF x r := h (x, m) (by simp)
    obtain ⟨a, b, c⟩ := ih fun p hp => h p (by simp [hp])
    refine ⟨?_, ?_, ?_⟩
    · rw [lookA, if_neg (by omega), a]
    · rw [hasA, b, decide_eq_false (by omega)]; rfl
    · rw [delA, if_neg (by omega), c]
/-- The row is there. -/
theorem place_here {A : AV} {r : List Val} {i : Nat} (h : PlaceOf A r i true) : ∃ x m, A[i]? = some (x, m) ∧ lookA A r = m ∧ hasA A r = true ∧ delA A r = A.take i ++ A.drop (i + 1) ∧ ∀ n, putA A r n = A.take i ++ (x, n) :: A.drop (i + 1) := by
  induction A generalizing i with
  | nil => obtain ⟨p, h1, -⟩ := h.here rfl; simp at h1
  | cons x t ih =>
    obtain ⟨x, m⟩ := x
    cases i with
    | zero =>
      obtain ⟨p, h1, h2⟩ := h.here rfl
      simp at h1
      subst h1
      refine ⟨x, m, rfl, ?_, ?_, ?_, fun n => ?_⟩
      · rw [lookA, if_pos h2]
      · rw [hasA, decide_eq_true h2]; rfl
      · rw [delA, if_pos h2]; rfl
      · rw [putA, if_pos h2]; rfl
    | succ i =>
      obtain ⟨h0, h1⟩ := place_skip h
      simp only at h0
      obtain ⟨y, n, a, b, c, d, e⟩ := ih h1
      refine ⟨y, n, by simpa using a, ?_, ?_, ?_, fun q => ?_⟩
      · rw [lookA, if_neg (by omega), b]
      · rw [hasA, c, Bool.or_true]
      · rw [delA, if_neg (by omega), d]; rfl
      · rw [putA, if_neg (by omega), if_pos h0, e]; rfl
/-- The row is not there. -/
theorem place_none {A : AV} {r : List Val} {i : Nat} (h : PlaceOf A r i false) : lookA A r = 0 ∧ hasA A r = false ∧ delA A r = A ∧ ∀ n, putA A r n = A.take i ++ (r, n) :: A.drop i := by
  induction A generalizing i with
  | nil => exact ⟨rfl, rfl, rfl, fun n => by simp [putA]⟩
  | cons x t ih =>
    obtain ⟨x, m⟩ := x
    cases i with
    | zero =>
      have hall : ∀ p ∈ (x, m) :: t, 0 < rowsF p.1 r := by
        intro p hp
        obtain ⟨j, hj⟩ := List.getElem?_of_mem hp
        exact h.more rfl j p (by omega) hj
      obtain ⟨a, b, c⟩ := look_more hall
      refine ⟨a, b, c, fun n => ?_⟩
      have h0 : 0 < rowsF x r := hall (x, m) (by simp)
      rw [putA, if_neg (by omega), if_neg (by omega)]; rfl
    | succ i =>
      obtain ⟨h0, h1⟩ := place_skip h
      simp only at h0
      obtain ⟨a, b, c, d⟩ := ih h1
      refine ⟨?_, ?_, ?_, fun n => ?_⟩
      · rw [lookA, if_neg (by omega), a]
      · rw [hasA, b, decide_eq_false (by omega)]; rfl
      · rw [delA, if_neg (by omega), c]
      · rw [putA, if_neg (by omega), if_pos h0, d]; rfl

theorem rises_less {A : AV} {r : List Val} (h : Rises A) (hr : GoodR r) {i j : Nat} {p q : List Val × Int} (hi : A[i]? = some p) (hj : A[j]? = some q) (hle : i ≤ j) (hq : rowsF q.1 r < 0) : rowsF p.1 r < 0 := by
  rcases Nat.lt_or_ge i j with hlt | hge
  · obtain ⟨h1, e1⟩ := List.getElem?_eq_some_iff.1 hi
    obtain ⟨h2, e2⟩ := List.getElem?_eq_some_iff.1 hj
    have := List.pairwise_iff_getElem.1 h.rise i j h1 h2 hlt
    rw [e1, e2] at this
    exact rowsF_trans (h.good p (List.mem_of_getElem? hi)) (h.good q (List.mem_of_getElem? hj)) hr this hq
  · obtain rfl : i = j := by omega
    rw [hi] at hj
    obtain rfl := Option.some.inj hj
    exact hq
theorem rises_more {A : AV} {r : List Val} (h : Rises A) (hr : GoodR r) {i j : Nat} {p q : List Val × Int} (hi : A[i]? = some p) (hj : A[j]? = some q) (hle : i ≤ j) (hp : 0 < rowsF p.1 r) : 0 < rowsF q.1 r := by
  rcases Nat.lt_or_ge i j with hlt | hge
  · obtain ⟨h1, e1⟩ := List.getElem?_eq_some_iff.1 hi
    obtain ⟨h2, e2⟩ := List.getElem?_eq_some_iff.1 hj
    have := List.pairwise_iff_getElem.1 h.rise i j h1 h2 hlt
    rw [e1, e2] at this
    have gp := h.good p (List.mem_of_getElem? hi)
    have gq := h.good q (List.mem_of_getElem? hj)
    have h3 : rowsF r p.1 < 0 := by rw [rowsF_flip gp hr]; omega
    have h4 := rowsF_trans hr gp gq h3 this
    rw [rowsF_flip hr gq]
    omega
  · obtain rfl : i = j := by omega
    rw [hi] at hj
    obtain rfl := Option.some.inj hj
    exact hp

set_option maxHeartbeats 4000000 in
set_option maxRecDepth 10000 in
theorem place_any (v vr : Value) (l : List Cnt) (r : List Val) (w : World) (h : View w v l) (hl : l.length ≤ 1000000) (hs : Sl w vr r.length (rowCells r)) (hr : Rises (av l)) (hg : GoodR r) :
    Calls Tryz.prog 138 #[v, vr] w fun e w' => ∃ i is, e = .returned (.tuple #[.int .i64 (i : Nat), .bool is]) ∧ PlaceOf (av l) r i is ∧ Below w.heap.size w w' := by
  have HV := Lib.hid h
  have HS := Lib.hid hs
  have HR := Lib.hid hr
  have HG := Lib.hid hg
  have HAL := Lib.hid (show (av l).length = l.length from by unfold av; rw [List.length_map])
  obtain ⟨A, c, rfl, h1, h2, -⟩ := h.sl
  obtain ⟨Ar, cr, rfl, -⟩ := id hs
  clear h hs hr hg
  unfold maxLen at h2
  go_enter Tryz.func138, Tryz.ntmps138
  go_wp2_with fail
  go_loopw [6, 7, 8, 9] (fun lo hi _ _ wr => ∃ a b : Nat, lo = .int .i64 a ∧ hi = .int .i64 b ∧ a ≤ b ∧ b ≤ l.length ∧ Hid (∀ j p, j < a → (av l)[j]? = some p → rowsF p.1 r < 0) ∧ Hid (∀ j p, b ≤ j → (av l)[j]? = some p → 0 < rowsF p.1 r) ∧ Below w.heap.size w wr) (fun lo hi _ _ _ => (intOf hi).toNat - (intOf lo).toNat)
  case atStart => exact ⟨0, l.length, rfl, rfl, by omega, by omega, fun j p h => absurd h (by omega), fun j p h hp => by have := (List.getElem?_eq_some_iff.1 hp).1; rw [HAL.out] at this; omega, Below.refl _ _⟩
  case round =>
    obtain ⟨a, b, rfl, rfl, hab, hbl, HL, HM, hbw⟩ := hrel
    by_cases hlt : a < b
    · obtain ⟨m, hm⟩ : ∃ m, (a + b) / 2 = m := ⟨_, rfl⟩
      have hma : a ≤ m := by omega
      have hmb : m < b := by omega
      have hq : ((a : Int) + (b : Int)).tdiv 2 = (m : Int) := by rw [Int.tdiv_eq_ediv_of_nonneg (by omega)]; omega
      have hml : m < l.length := by omega
      have hx := List.getElem?_eq_getElem (l := l) hml
      generalize l[m] = x at hx
      obtain ⟨g, off, rfl, -, hc⟩ := cnt_at HV.out.sl rfl hx
      obtain ⟨d1, d2⟩ := hc _ hbw
      have HRX := Lib.hid (HV.out.rows x (List.mem_of_getElem? hx))
      have HX := Lib.hid (show (av l)[m]? = some (x.r, x.n) from by unfold av; rw [List.getElem?_map, hx]; rfl)
      clear hx hc hm
      obtain ⟨xv, xr, xn⟩ := x
      simp only at d1 d2 HRX HX
      obtain ⟨Ax, cx, rfl, -⟩ := id HRX.out
      have m0 : (0 : Int) ≤ (m : Int) := by omega
      have m1 : (m : Int) < (l.length : Int) := by omega
      have hD : rowsF xr r = 0 ∨ rowsF xr r < 0 ∨ 0 < rowsF xr r := by omega
      rcases hD with hz | hz | hz
      · have hb0 := beqT hz
        have HP : Hid (PlaceOf (av l) r m true) := Lib.hid ⟨by rw [HAL.out]; omega, fun j p hj hp => by
            have := (List.getElem?_eq_some_iff.1 hp)
            obtain ⟨h1, e1⟩ := this
            obtain ⟨h2, e2⟩ := List.getElem?_eq_some_iff.1 HX.out
            have h3 := List.pairwise_iff_getElem.1 HR.out.rise j m h1 h2 hj
            rw [e1, e2] at h3
            have e := (rowsF_zero (HR.out.good _ (List.mem_of_getElem? HX.out)) HG.out).1 hz
            simp only at h3 e
            rw [← e]
            exact h3, fun _ => ⟨_, HX.out, hz⟩, nofun⟩
        clear hz
        go_wp2_with fail
        refine (rrows_any _ _ xr r _ (HRX.out.below hbw) (HS.out.below hbw)).mono ?_
        rintro e w2 ⟨rfl, hb2⟩
        go_wp2
        go_ret2
        exact ⟨m, true, rfl, HP.out, below_trans hbw hb2⟩
      · have hb0 := beqF (show rowsF xr r ≠ 0 by omega)
        have HL2 : Hid (∀ j p, j < m + 1 → (av l)[j]? = some p → rowsF p.1 r < 0) := Lib.hid fun j p hj hp => rises_less HR.out HG.out hp HX.out (by omega) hz
        go_wp2_with fail
        refine (rrows_any _ _ xr r _ (HRX.out.below hbw) (HS.out.below hbw)).mono ?_
        rintro e w2 ⟨rfl, hb2⟩
        go_wp2
        go_roundw
        case rel => exact ⟨m + 1, b, by go_num, rfl, by omega, hbl, HL2.out, HM.out, below_trans hbw hb2⟩
        case measure => simp [intOf]; omega
      · have hb0 := beqF (show rowsF xr r ≠ 0 by omega)
        have hn : ¬ rowsF xr r < 0 := by omega
        have HM2 : Hid (∀ j p, m ≤ j → (av l)[j]? = some p → 0 < rowsF p.1 r) := Lib.hid fun j p hj hp => rises_more HR.out HG.out HX.out hp hj hz
        clear hz
        go_wp2_with fail
        refine (rrows_any _ _ xr r _ (HRX.out.below hbw) (HS.out.below hbw)).mono ?_
        rintro e w2 ⟨rfl, hb2⟩
        go_wp2
        go_roundw
        case rel => exact ⟨a, m, rfl, rfl, hma, by omega, HL.out, HM2.out, below_trans hbw hb2⟩
        case measure => simp [intOf]; omega
    · obtain rfl : a = b := by omega
      go_wp2
      go_ret2
      exact ⟨a, false, rfl, ⟨by rw [HAL.out]; omega, HL.out, nofun, fun _ => HM.out⟩, hbw⟩

end Go.Proofs.YtblhidmkalleoaaGreatDoor
namespace Go.Proofs.YtblhidmkalleoaaGreatDoor
open Go.RowKit


/-! ### copy, of elements of any size -/

/-! ### a view of one's own, turned -/
theorem cnt_take (l : List Cnt) (k : Nat) : (cntCells l).take (k * 2) = cntCells (l.take k) := flat_take Cnt.cells_len l k
theorem cnt_drop (l : List Cnt) (k : Nat) : (cntCells l).drop (k * 2) = cntCells (l.drop k) := flat_drop Cnt.cells_len l k
/-- Some of the entries, in the same row or a new one. -/
theorem OwnV.sub {w w' : World} {base : Nat} {v v' : Value} {l l' : List Cnt} (h : OwnV w base v l) (hown : w'.ownsRow base 115 2 v' l'.length (cntCells l')) (hg : w.grownBy w' v.ownBlock) (hat : v'.ownBlock = v.ownBlock ∨ v'.ownBlock = some w.heap.size) (hsub : ∀ c ∈ l', c ∈ l) : OwnV w' base v' l' := by
  refine ⟨hown, fun d hd => sl_grown (h.rows d (hsub d hd)) hg (fun k hk => (h.far d (hsub d hd) k hk).2), fun d hd k hk => ?_⟩
  obtain ⟨h1, h2⟩ := h.far d (hsub d hd) k hk
  refine ⟨Nat.lt_of_lt_of_le h1 hg.size, ?_⟩
  rcases hat with hat | hat
  · rw [hat]; exact h2
  · rw [hat]; intro e; injection e with e; omega
theorem cnt_set (l : List Cnt) (i : Nat) (c : Cnt) (n : Int) (hi : l[i]? = some c) : (cntCells l).set (i * 2 + 1) (.int .i64 n) = cntCells (l.set i ⟨c.v, c.r, n⟩) := by
  induction l generalizing i with
  | nil => simp at hi
  | cons a l ih =>
    cases i with
    | zero =>
      simp at hi
      subst hi
      simp [cntCells, Cnt.cells]
    | succ i =>
      have := ih i (by simpa using hi)
      have e : (i + 1) * 2 + 1 = i * 2 + 1 + 1 + 1 := by omega
      rw [e, List.set_cons_succ]
      unfold cntCells at this ⊢
      rw [List.flatMap_cons, List.flatMap_cons, ← this]
      simp [Cnt.cells]
/-- One number set anew. -/
theorem OwnV.set {w : World} {base g cap i : Nat} {l : List Cnt} {c : Cnt} {n : Int} (h : OwnV w base (.slice (some ⟨g, 0, none⟩) l.length cap) l) (hi : l[i]? = some c) :
    OwnV (w.setCell ⟨g, i * 2 + 1, none⟩ (.int .i64 n)) base (.slice (some ⟨g, 0, none⟩) l.length cap) (l.set i ⟨c.v, c.r, n⟩) ∧ w.grownBy (w.setCell ⟨g, i * 2 + 1, none⟩ (.int .i64 n)) (some g) := by
  obtain ⟨h1, h2⟩ := h.own.stored (i * 2 + 1) (.int .i64 n)
  rw [cnt_set l i c n hi] at h1
  have hsub : ∀ d ∈ l.set i ⟨c.v, c.r, n⟩, ∃ d' ∈ l, d'.v = d.v ∧ d'.r = d.r := by
    intro d hd
    rcases List.mem_or_eq_of_mem_set hd with hd | rfl
    · exact ⟨d, hd, rfl, rfl⟩
    · exact ⟨c, List.mem_of_getElem? hi, rfl, rfl⟩
  refine ⟨⟨by rw [List.length_set]; exact h1, fun d hd => ?_, fun d hd k hk => ?_⟩, h2⟩
  · obtain ⟨d', hd', e1, e2⟩ := hsub d hd
    rw [← e1, ← e2]
    exact sl_grown (h.rows d' hd') h2 (fun k hk => (h.far d' hd' k hk).2)
  · obtain ⟨d', hd', e1, -⟩ := hsub d hd
    rw [← e1] at hk
    obtain ⟨a, b⟩ := h.far d' hd' k hk
    exact ⟨Nat.lt_of_lt_of_le a h2.size, b⟩
theorem av_set (l : List Cnt) (i : Nat) (c : Cnt) (n : Int) (hi : i < l.length) : av (l.set i ⟨c.v, c.r, n⟩) = (av l).take i ++ (c.r, n) :: (av l).drop (i + 1) := by
  unfold av
  rw [List.set_eq_take_append_cons_drop, if_pos hi]
  simp [List.map_take, List.map_drop]
theorem av_cut (l : List Cnt) (i : Nat) : av (l.take i ++ l.drop (i + 1)) = (av l).take i ++ (av l).drop (i + 1) := by
  unfold av
  simp [List.map_take, List.map_drop]
theorem sl_none {w : World} {A : Addr} {n c : Nat} (h : n ≤ c) (hc : c ≤ maxLen) : Sl w (.slice (some A) n c) n [] := ⟨_, c, rfl, h, hc, nofun, fun h => absurd rfl h⟩

end Go.Proofs.YtblhidmkalleoaaGreatDoor
namespace Go.Proofs.YtblhidmkalleoaaGreatDoor
open Go.RowKit

theorem cntSize : (Tryz.prog.info? 115).map (·.size) = some 2 := by kernel_rfl

/-- What lies from i on goes one place on. -/
theorem own_shift {w : World} {base g m cap i c1 c2 : Nat} {xs : List Value} (h : w.ownsRow base 115 2 (.slice (some ⟨g, 0, none⟩) (m + 1) cap) (m + 1) xs) (hi : i < m) (h1 : ∀ v ∈ xs, v.oneCell' = true) :
    ∃ w', (∀ ty, (Builtin.copy_ #[27, 27] ty #[.slice (some ⟨g, (i + 1) * 2, none⟩) (m - i) c1, .slice (some ⟨g, i * 2, none⟩) (m + 1 - i) c2]).run Tryz.prog w = .ok (goInt (m - i : Nat)) w') ∧
      w'.ownsRow base 115 2 (.slice (some ⟨g, 0, none⟩) (m + 1) cap) (m + 1) (xs.take ((i + 1) * 2) ++ (xs.drop (i * 2)).take ((m - i) * 2)) ∧ w.grownBy w' (some g) := by
  have hx := h.1
  rcases h.2 with ⟨h', -⟩ | ⟨g', cap', cur, h', hb, hg, hn, hc, hsz, ht⟩
  · cases h'
  · injection h' with e1 e2 e3
    injection e1 with e1
    injection e1 with e1
    subst e1 e3
    have hlen : ((xs.drop (i * 2)).take ((m - i) * 2)).length = (m - i) * 2 := by rw [List.length_take, List.length_drop, hx]; omega
    have hmin : Nat.min (m + 1 - i) (m - i) = m - i := by show min _ _ = _; omega
    have hcur : (m + 1) * 2 ≤ cur.size := by rw [hsz]; exact Nat.mul_le_mul_right _ hn
    have hrun := fun ty => run_copy_wide (P := Tryz.prog) w 27 27 ty 115 g ((i + 1) * 2) (m - i) c1 ⟨g, i * 2, none⟩ (m + 1 - i) c2 2 cur 115 ((xs.drop (i * 2)).take ((m - i) * 2)) Tryz.underlying27 cntSize hg
      (by rw [hlen, hmin]) (fun j v hj => by
        rw [List.getElem?_take] at hj
        split at hj
        · rw [List.getElem?_drop] at hj
          have := h.cellAt (i * 2 + j) (by have := (List.getElem?_eq_some_iff.1 hj).1; omega)
          rw [hj] at this
          unfold Addr.add
          split
          · rename_i h0; subst h0; simpa using this
          · exact this
        · cases hj) (by rw [hlen]; omega) (fun v hv => h1 v (List.mem_of_mem_drop (List.mem_of_mem_take hv)))
    simp only [hmin] at hrun
    refine ⟨_, hrun, ⟨?_, .inr ⟨g, cap, _, rfl, hb, setRow_heap w g cur _ 115 _ hg, hn, hc, ?_, ?_⟩⟩, ⟨rfl, rfl, rfl, by simp [World.setRow], fun k hk hne => setRow_other w g k _ (fun e => hne (by rw [e]))⟩⟩
    · rw [List.length_append, hlen, List.length_take, hx]; omega
    · simp only [List.size_toArray, List.length_append, List.length_take, List.length_drop, Array.length_toList, hlen]; omega
    · have e1 : cur.toList.take ((i + 1) * 2) = xs.take ((i + 1) * 2) := by rw [← ht, List.take_take, Nat.min_eq_left (by omega)]
      rw [e1]
      have e4 : (xs.take ((i + 1) * 2) ++ (xs.drop (i * 2)).take ((m - i) * 2)).length = (m + 1) * 2 := by rw [List.length_append, hlen, List.length_take, hx]; omega
      exact List.take_left' e4


/-- The entry at place i laid anew. -/
theorem cnt_lay (a b : List Cnt) (x c : Cnt) : ((cntCells (a ++ x :: b)).set (a.length * 2) c.v).set (a.length * 2 + 1) (.int .i64 c.n) = cntCells (a ++ c :: b) := by
  induction a with
  | nil => simp [cntCells, Cnt.cells]
  | cons y a ih =>
    have e1 : (y :: a).length * 2 = a.length * 2 + 1 + 1 := by simp; omega
    rw [e1]
    unfold cntCells at ih ⊢
    simp only [List.cons_append, List.flatMap_cons]
    rw [← ih]
    simp [Cnt.cells]

theorem OwnV.lay {w : World} {base g n cap : Nat} {a b : List Cnt} {x c : Cnt} (h : OwnV w base (.slice (some ⟨g, 0, none⟩) n cap) (a ++ x :: b)) (hn : n = (a ++ x :: b).length) (hc : Sl w c.v c.r.length (rowCells c.r)) (hf : ∀ k, c.v.ownBlock = some k → k < w.heap.size ∧ k ≠ g) :
    OwnV ((w.setCell ⟨g, a.length * 2, none⟩ c.v).setCell ⟨g, a.length * 2 + 1, none⟩ (.int .i64 c.n)) base (.slice (some ⟨g, 0, none⟩) n cap) (a ++ c :: b) ∧ w.grownBy ((w.setCell ⟨g, a.length * 2, none⟩ c.v).setCell ⟨g, a.length * 2 + 1, none⟩ (.int .i64 c.n)) (some g) := by
  have ho := h.own
  rw [← hn] at ho
  obtain ⟨h1, g1⟩ := ho.stored (a.length * 2) c.v
  obtain ⟨h2, g2⟩ := h1.stored (a.length * 2 + 1) (.int .i64 c.n)
  have hg := grown_trans g1 g2
  rw [cnt_lay] at h2
  have hlen : (a ++ c :: b).length = n := by rw [hn]; simp
  have hd : ∀ d ∈ a ++ c :: b, Sl w d.v d.r.length (rowCells d.r) ∧ ∀ k, d.v.ownBlock = some k → k < w.heap.size ∧ k ≠ g := by
    intro d hd
    rcases List.mem_append.1 hd with hd | hd
    · exact ⟨h.rows d (by simp [hd]), fun k hk => by obtain ⟨p, q⟩ := h.far d (by simp [hd]) k hk; exact ⟨p, fun e => q (by rw [e]; rfl)⟩⟩
    · rcases List.mem_cons.1 hd with rfl | hd
      · exact ⟨hc, hf⟩
      · exact ⟨h.rows d (by simp [hd]), fun k hk => by obtain ⟨p, q⟩ := h.far d (by simp [hd]) k hk; exact ⟨p, fun e => q (by rw [e]; rfl)⟩⟩
  refine ⟨⟨by rw [hlen]; exact h2, fun d hd' => sl_grown (hd d hd').1 hg (fun k hk e => ((hd d hd').2 k hk).2 (by injection e with e; exact e.symm)), fun d hd' k hk => ?_⟩, hg⟩
  obtain ⟨p, q⟩ := (hd d hd').2 k hk
  exact ⟨Nat.lt_of_lt_of_le p hg.size, fun e => q (by simp [Value.ownBlock] at e; exact e.symm)⟩
theorem split_at {l : List Cnt} {i : Nat} (hi : i < l.length) (z : Cnt) : (l ++ [z]).take (i + 1) = l.take i ++ [l[i]] ∧ ((l ++ [z]).drop i).take (l.length - i) = l.drop i := by
  constructor
  · rw [List.take_append_of_le_length (by omega), List.take_add_one, List.getElem?_eq_getElem hi]; rfl
  · rw [List.drop_append_of_le_length (by omega), List.take_append_of_le_length (by rw [List.length_drop]; omega), List.take_of_length_le (by rw [List.length_drop]; omega)]
theorem av_lay (l : List Cnt) (i : Nat) (c : Cnt) : av (l.take i ++ c :: l.drop i) = (av l).take i ++ (c.r, c.n) :: (av l).drop i := by
  unfold av
  simp [List.map_take, List.map_drop]

end Go.Proofs.YtblhidmkalleoaaGreatDoor
