/-
  Groups: the reference's bagFine. (Printed by gengrp18.py.)
-/
import Derived.Test.YtblhidmkalleoaaGreatDoorGrp2
import Derived.Test.YtblhidmkalleoaaGreatDoorGrpA16
set_option linter.unusedSimpArgs false
set_option linter.unusedVariables false
namespace Go.Proofs.YtblhidmkalleoaaGreatDoor
open Go.RowKit

theorem fit_def (t : Int) (x : Val) : fitOne (t, x) = (x.k == 0 || x.k == t) := rfl

set_option maxHeartbeats 16000000 in
set_option maxRecDepth 10000 in
theorem rbag_any (p : Pl) (a : Int × Int) (n : Int) (vb : Value) (bag : List Tl) (w : World) (h : p.ok w) (hl : p.left.length ≤ 1000) (hr : p.right.length ≤ 1000) (hbag : Sl w vb bag.length (tlCells bag)) (hf : ∀ x ∈ bag, Fine [x.v] ∧ (-9223372036854775808 ≤ x.n ∧ x.n ≤ 9223372036854775807))
    (hc : a.1 ≠ 1 → 0 ≤ a.2 ∧ a.2 < (allT p).length) (hn : 0 ≤ n ∧ n ≤ 1073741824) :
    Calls Tryz.prog 61 #[.agg #[.int .i64 p.kind, .int .i64 p.mode, .int .i64 p.low, .int .i64 p.high, .int .i64 p.size, .int .i64 p.limit, p.vl, p.vr, p.vk, p.vq, .bool p.grouped, p.vg, p.va], .agg #[.int .i64 a.1, .int .i64 a.2], .int .i64 n, vb] w fun e w' => e = .returned (.bool (bagB p a n bag)) ∧ Below w.heap.size w w' := by
  have HB := Lib.hid hbag
  have HF := Lib.hid hf
  have HTY : Hid (∀ W, Below w.heap.size w W → Calls Tryz.prog 56 #[.agg #[.int .i64 p.kind, .int .i64 p.mode, .int .i64 p.low, .int .i64 p.high, .int .i64 p.size, .int .i64 p.limit, p.vl, p.vr, p.vk, p.vq, .bool p.grouped, p.vg, p.va]] W fun e w' => ∃ v, e = .returned v ∧ Sl w' v (allT p).length (intCells (allT p)) ∧ (∀ k, v.ownBlock = some k → W.heap.size ≤ k) ∧ Below W.heap.size W w') := Lib.hid (fun W hb => types_any p W (h.below hb) hl hr)
  obtain ⟨R, hR⟩ : ∃ R : Bool, R = bagB p a n bag := ⟨_, rfl⟩
  rw [← hR]
  unfold bagB at hR
  obtain ⟨A0, c0, h0, -⟩ := h.l
  obtain ⟨A1, c1, h1, -⟩ := h.r
  obtain ⟨A2, c2, h2, -⟩ := h.k
  obtain ⟨A3, c3, h3, -⟩ := h.q
  obtain ⟨A4, c4, h4, -⟩ := h.g
  obtain ⟨A5, c5, h5, -⟩ := h.a
  rw [h0, h1, h2, h3, h4, h5] at HTY ⊢
  obtain ⟨tt, htt⟩ : ∃ tt, allT p = tt := ⟨_, rfl⟩
  rw [htt] at HTY hR hc
  clear htt h h0 h1 h2 h3 h4 h5 hl hr
  obtain ⟨Ab, cb, rfl, n1, m1, -⟩ := hbag
  unfold maxLen at m1
  obtain ⟨fn, col⟩ := a
  simp only at hc hR ⊢
  have hB := below_trans (below_alloc w (.cells #[.int .i64 p.kind, .int .i64 p.mode, .int .i64 p.low, .int .i64 p.high, .int .i64 p.size, .int .i64 p.limit, .slice A0 p.left.length c0, .slice A1 p.right.length c1, .slice A2 p.lkeys.length c2, .slice A3 p.rkeys.length c3, .bool p.grouped, .slice A4 p.group.length c4, .slice A5 p.aggs.length c5] 25)) (below_alloc _ (.cells #[.int .i64 fn, .int .i64 col] 106))
  have K0 := new_first w 25 #[.int .i64 p.kind, .int .i64 p.mode, .int .i64 p.low, .int .i64 p.high, .int .i64 p.size, .int .i64 p.limit, .slice A0 p.left.length c0, .slice A1 p.right.length c1, .slice A2 p.lkeys.length c2, .slice A3 p.rkeys.length c3, .bool p.grouped, .slice A4 p.group.length c4, .slice A5 p.aggs.length c5] (.cells #[.int .i64 fn, .int .i64 col] 106)
  have K1 := new_second w 106 #[.int .i64 fn, .int .i64 col] (.cells #[.int .i64 p.kind, .int .i64 p.mode, .int .i64 p.low, .int .i64 p.high, .int .i64 p.size, .int .i64 p.limit, .slice A0 p.left.length c0, .slice A1 p.right.length c1, .slice A2 p.lkeys.length c2, .slice A3 p.rkeys.length c3, .bool p.grouped, .slice A4 p.group.length c4, .slice A5 p.aggs.length c5] 25)
  have y0 := K1.cell 0 _ rfl
  clear hf
  by_cases hfn : fn = 1
  · have q1 := beqT hfn
    have EE := Lib.hid (hR.trans (if_pos hfn))
    subst hfn
    clear hR hc q1
    have q2 : ((bag.length : Int) == 0) = bag.isEmpty := by cases bag <;> simp; omega
    go_enter Tryz.func61, Tryz.ntmps61
    go_wp2
    go_ret
    exact ⟨by rw [EE.out, ← q2]; rfl, hB⟩
  · have q1 := beqF hfn
    have hc := hc hfn
    obtain ⟨m, rfl⟩ : ∃ m : Nat, col = m := ⟨col.toNat, by omega⟩
    have hm : m < tt.length := by omega
    have EE := hR.trans (if_neg hfn)
    rw [show ((m : Int)).toNat = m by omega] at EE
    obtain ⟨t, ht⟩ : ∃ t, tt.getD m 0 = t := ⟨_, rfl⟩
    have HTT := Lib.hid ht
    rw [ht] at EE
    have HE := Lib.hid EE
    have x1 := K1.cell 1 _ rfl
    have m0' : (0 : Int) ≤ (m : Int) := by omega
    have m1' : (m : Int) < (tt.length : Int) := by omega
    clear EE hR hc hfn ht
    go_enter Tryz.func61, Tryz.ntmps61
    go_wp2_with fail
    go_loopw [9, 10] (fun nv i wr => ∃ (k : Nat) (left I : Int), k ≤ bag.length ∧ nv = .int .i64 left ∧ i = .int .i64 I ∧ I = (k : Int) ∧ 0 ≤ left ∧ left ≤ 1073741824 ∧ Hid (R = bagG t (prevT bag k) left (bag.drop k)) ∧ Below ((w.alloc (.cells #[.int .i64 p.kind, .int .i64 p.mode, .int .i64 p.low, .int .i64 p.high, .int .i64 p.size, .int .i64 p.limit, .slice A0 p.left.length c0, .slice A1 p.right.length c1, .slice A2 p.lkeys.length c2, .slice A3 p.rkeys.length c3, .bool p.grouped, .slice A4 p.group.length c4, .slice A5 p.aggs.length c5] 25)).alloc (.cells #[.int .i64 fn, .int .i64 (m : Int)] 106)).heap.size ((w.alloc (.cells #[.int .i64 p.kind, .int .i64 p.mode, .int .i64 p.low, .int .i64 p.high, .int .i64 p.size, .int .i64 p.limit, .slice A0 p.left.length c0, .slice A1 p.right.length c1, .slice A2 p.lkeys.length c2, .slice A3 p.rkeys.length c3, .bool p.grouped, .slice A4 p.group.length c4, .slice A5 p.aggs.length c5] 25)).alloc (.cells #[.int .i64 fn, .int .i64 (m : Int)] 106)) wr)
      (fun _ i _ => bag.length - (intOf i).toNat)
    case atStart => exact ⟨0, n, 0, by omega, rfl, rfl, rfl, hn.1, hn.2, HE, Below.refl _ _⟩
    case round =>
      obtain ⟨k, left, I, hk, rfl, rfl, hI, hl0, hl1, H, hbw⟩ := hrel
      have hBw := below_trans hB hbw
      have HI := Lib.hid hI
      have I0 : (0 : Int) ≤ I := by omega
      by_cases hlt : I < (bag.length : Int)
      · have hlt' : k < bag.length := by omega
        have hx := List.getElem?_eq_getElem (l := bag) hlt'
        generalize bag[k] = x at hx
        obtain ⟨bb, ob, hAb, -, hcb⟩ := tl_at HB.out rfl hx
        have hIN : I.toNat = k := by omega
        obtain ⟨d0, d1, d2, -⟩ := hcb _ hBw
        have HD := Lib.hid (bagG_drop hx H.out)
        have HXS := Lib.hid ((HF.out x (List.mem_of_getElem? hx)).1.small x.v (by simp))
        have hxn := (HF.out x (List.mem_of_getElem? hx)).2
        obtain ⟨⟨xk, xn, xs⟩, xc⟩ := x
        have HCB := Lib.hid (fun W (hb : Below w.heap.size w W) => (hcb W hb).2.2.2)
        simp only at d0 d1 d2 HD HXS hxn HCB
        subst hAb
        have hBw1 := hBw.alloc hBw.size (.cells #[.int .i64 xk, .int .i64 xn, .string xs] 112)
        have hbw1 := hbw.alloc hbw.size (.cells #[.int .i64 xk, .int .i64 xn, .string xs] 112)
        have KX := Blk.new wr 112 #[.int .i64 xk, .int .i64 xn, .string xs]
        have HSS := Lib.hid (fun w' (h : Below (wr.alloc (.cells #[.int .i64 xk, .int .i64 xn, .string xs] 112)).heap.size (wr.alloc (.cells #[.int .i64 xk, .int .i64 xn, .string xs] 112)) w') => And.intro ((KX.below h).cell 0 _ rfl) (And.intro ((KX.below h).cell 1 _ rfl) (And.intro ((KX.below h).cell 2 _ rfl) (And.intro (((K0.below hbw1).below h).cell 0 _ rfl) (And.intro (((K0.below hbw1).below h).cell 1 _ rfl) (And.intro (((K0.below hbw1).below h).cell 2 _ rfl) (And.intro (((K0.below hbw1).below h).cell 3 _ rfl) (And.intro (((K0.below hbw1).below h).cell 4 _ rfl) (And.intro (((K0.below hbw1).below h).cell 5 _ rfl) (And.intro (((K0.below hbw1).below h).cell 6 _ rfl) (And.intro (((K0.below hbw1).below h).cell 7 _ rfl) (And.intro (((K0.below hbw1).below h).cell 8 _ rfl) (And.intro (((K0.below hbw1).below h).cell 9 _ rfl) (And.intro (((K0.below hbw1).below h).cell 10 _ rfl) (And.intro (((K0.below hbw1).below h).cell 11 _ rfl) (And.intro (((K0.below hbw1).below h).cell 12 _ rfl) (And.intro (((K1.below hbw1).below h).cell 1 _ rfl) (HCB.out w' (below_trans hBw1 h)))))))))))))))))))
        have HH0 := Lib.hid (HSS.out _ (Below.refl _ (wr.alloc (.cells #[.int .i64 xk, .int .i64 xn, .string xs] 112))).drew)
        have HCK := Lib.hid (fun W => rcheck_val ⟨xk, xn, xs⟩ W HXS.out)
        generalize checkV ⟨xk, xn, xs⟩ = CV at HD HCK
        rw [fit_def] at HD
        simp only at HD HCK
        clear H hcb hx hI KX hlt'
        by_cases hcv : CV = 0
        · have q3 := bneF hcv
          have HD1 := Lib.hid (HD.out.trans (by rw [beqT hcv, Bool.true_and]))
          clear hcv HD
          by_cases hk0 : xk = 0
          · have qk := bneF hk0
            have HD2 := Lib.hid (HD1.out.trans (by rw [beqT hk0, Bool.true_or, Bool.true_and]))
            clear HD1 hk0
            by_cases hn1 : xc < 1
            · have EE : Hid (R = false) := Lib.hid (HD2.out.trans (by rw [decide_eq_false (by omega)]; rfl))
              have q4 : decide (xc < 1) = true := decide_eq_true hn1
              clear HD2 hn1
              go_wp2_with fail
              refine tr (S := (fun w' => w'.cell? ⟨wr.heap.size, 0, none⟩ = some (.int .i64 xk) ∧ w'.cell? ⟨wr.heap.size, 1, none⟩ = some (.int .i64 xn) ∧ w'.cell? ⟨wr.heap.size, 2, none⟩ = some (.string xs) ∧ w'.cell? ⟨w.heap.size, 0, none⟩ = some (.int .i64 p.kind) ∧ w'.cell? ⟨w.heap.size, 1, none⟩ = some (.int .i64 p.mode) ∧ w'.cell? ⟨w.heap.size, 2, none⟩ = some (.int .i64 p.low) ∧ w'.cell? ⟨w.heap.size, 3, none⟩ = some (.int .i64 p.high) ∧ w'.cell? ⟨w.heap.size, 4, none⟩ = some (.int .i64 p.size) ∧ w'.cell? ⟨w.heap.size, 5, none⟩ = some (.int .i64 p.limit) ∧ w'.cell? ⟨w.heap.size, 6, none⟩ = some (.slice A0 p.left.length c0) ∧ w'.cell? ⟨w.heap.size, 7, none⟩ = some (.slice A1 p.right.length c1) ∧ w'.cell? ⟨w.heap.size, 8, none⟩ = some (.slice A2 p.lkeys.length c2) ∧ w'.cell? ⟨w.heap.size, 9, none⟩ = some (.slice A3 p.rkeys.length c3) ∧ w'.cell? ⟨w.heap.size, 10, none⟩ = some (.bool p.grouped) ∧ w'.cell? ⟨w.heap.size, 11, none⟩ = some (.slice A4 p.group.length c4) ∧ w'.cell? ⟨w.heap.size, 12, none⟩ = some (.slice A5 p.aggs.length c5) ∧ w'.cell? ⟨w.heap.size + 1, 1, none⟩ = some (.int .i64 (m : Int)) ∧ w'.cell? ⟨bb, ob + k * 4 + 3, none⟩ = some (.int .i64 xc))) HH0.out (fun hHeld => ?_)
              refine tk 0 ?_
              refine tc 1 ?_
              intro K hK
              go_simp
              refine (HCK.out _).mono ?_
              rintro e w2 ⟨rfl, hb2⟩
              have hbw2 := below_trans (Below.refl _ (wr.alloc (.cells #[.int .i64 xk, .int .i64 xn, .string xs] 112))).drew hb2
              have hbw3 := hbw2
              go_wp2_with fail
              refine hK.out _ _ (HSS.out _ hbw2) (fun hHeld1 => ?_)
              clear hK K
              refine tk 2 ?_; refine tk 3 ?_; refine tk 4 ?_; refine tk 5 ?_; refine tk 6 ?_; refine tk 7 ?_; refine tn 8 ?_; refine tn 9 ?_; refine tn 10 ?_; refine tn 11 ?_; refine tn 12 ?_; refine tn 13 ?_
              refine tn 14 ?_; refine tn 15 ?_; refine tn 16 ?_; refine tk 17 ?_; refine tk 18 ?_; refine tk 19 ?_; refine tk 20 ?_; refine tk 21 ?_; refine tk 22 ?_; refine tk 23 ?_; refine tk 24 ?_; refine tk 25 ?_
              refine tk 26 ?_; refine tk 27 ?_; refine tn 28 ?_; refine tn 29 ?_; refine tn 30 ?_; refine tn 31 ?_; refine tn 32 ?_; refine tn 33 ?_; refine tn 34 ?_; refine tk 35 ?_; refine tk 36 ?_; refine tn 37 ?_
              refine tn 38 ?_; refine tn 39 ?_; refine tn 40 ?_; refine tn 41 ?_; refine tn 42 ?_; refine tn 43 ?_; refine tn 44 ?_; refine tn 45 ?_; refine tn 46 ?_; refine tn 47 ?_; refine tn 48 ?_; refine tn 49 ?_
              refine tk 50 ?_
              refine td ?_
              go_wp2
              go_ret
              exact ⟨by rw [EE.out]; rfl, below_trans hBw1 hbw3⟩
            · have q4 : decide (xc < 1) = false := decide_eq_false hn1
              have HD3 := Lib.hid (HD2.out.trans (by rw [decide_eq_true (show 1 ≤ xc by omega), Bool.true_and]))
              have hn2 : 1 ≤ xc := by omega
              clear HD2 hn1
              by_cases hn3 : left < xc
              · have EE : Hid (R = false) := Lib.hid (HD3.out.trans (by rw [decide_eq_false (by omega)]; rfl))
                have q5 : decide (left < xc) = true := decide_eq_true hn3
                clear HD3 hn2 hn3
                go_wp2_with fail
                refine tr (S := (fun w' => w'.cell? ⟨wr.heap.size, 0, none⟩ = some (.int .i64 xk) ∧ w'.cell? ⟨wr.heap.size, 1, none⟩ = some (.int .i64 xn) ∧ w'.cell? ⟨wr.heap.size, 2, none⟩ = some (.string xs) ∧ w'.cell? ⟨w.heap.size, 0, none⟩ = some (.int .i64 p.kind) ∧ w'.cell? ⟨w.heap.size, 1, none⟩ = some (.int .i64 p.mode) ∧ w'.cell? ⟨w.heap.size, 2, none⟩ = some (.int .i64 p.low) ∧ w'.cell? ⟨w.heap.size, 3, none⟩ = some (.int .i64 p.high) ∧ w'.cell? ⟨w.heap.size, 4, none⟩ = some (.int .i64 p.size) ∧ w'.cell? ⟨w.heap.size, 5, none⟩ = some (.int .i64 p.limit) ∧ w'.cell? ⟨w.heap.size, 6, none⟩ = some (.slice A0 p.left.length c0) ∧ w'.cell? ⟨w.heap.size, 7, none⟩ = some (.slice A1 p.right.length c1) ∧ w'.cell? ⟨w.heap.size, 8, none⟩ = some (.slice A2 p.lkeys.length c2) ∧ w'.cell? ⟨w.heap.size, 9, none⟩ = some (.slice A3 p.rkeys.length c3) ∧ w'.cell? ⟨w.heap.size, 10, none⟩ = some (.bool p.grouped) ∧ w'.cell? ⟨w.heap.size, 11, none⟩ = some (.slice A4 p.group.length c4) ∧ w'.cell? ⟨w.heap.size, 12, none⟩ = some (.slice A5 p.aggs.length c5) ∧ w'.cell? ⟨w.heap.size + 1, 1, none⟩ = some (.int .i64 (m : Int)) ∧ w'.cell? ⟨bb, ob + k * 4 + 3, none⟩ = some (.int .i64 xc))) HH0.out (fun hHeld => ?_)
                refine tk 0 ?_
                refine tc 1 ?_
                intro K hK
                go_simp
                refine (HCK.out _).mono ?_
                rintro e w2 ⟨rfl, hb2⟩
                have hbw2 := below_trans (Below.refl _ (wr.alloc (.cells #[.int .i64 xk, .int .i64 xn, .string xs] 112))).drew hb2
                have hbw3 := hbw2
                go_wp2_with fail
                refine hK.out _ _ (HSS.out _ hbw2) (fun hHeld1 => ?_)
                clear hK K
                refine tk 2 ?_; refine tk 3 ?_; refine tk 4 ?_; refine tk 5 ?_; refine tk 6 ?_; refine tk 7 ?_; refine tn 8 ?_; refine tn 9 ?_; refine tn 10 ?_; refine tn 11 ?_; refine tn 12 ?_; refine tn 13 ?_
                refine tn 14 ?_; refine tn 15 ?_; refine tn 16 ?_; refine tk 17 ?_; refine tk 18 ?_; refine tk 19 ?_; refine tk 20 ?_; refine tk 21 ?_; refine tk 22 ?_; refine tk 23 ?_; refine tk 24 ?_; refine tk 25 ?_
                refine tk 26 ?_; refine tk 27 ?_; refine tk 28 ?_; refine tk 29 ?_; refine tk 30 ?_; refine tk 31 ?_; refine tk 32 ?_; refine tk 33 ?_; refine tk 34 ?_; refine tk 35 ?_; refine tk 36 ?_; refine tn 37 ?_
                refine tn 38 ?_; refine tn 39 ?_; refine tn 40 ?_; refine tn 41 ?_; refine tn 42 ?_; refine tn 43 ?_; refine tn 44 ?_; refine tn 45 ?_; refine tn 46 ?_; refine tn 47 ?_; refine tn 48 ?_; refine tn 49 ?_
                refine tk 50 ?_
                refine td ?_
                go_wp2
                go_ret
                exact ⟨by rw [EE.out]; rfl, below_trans hBw1 hbw3⟩
              · have q5 : decide (left < xc) = false := decide_eq_false hn3
                have HD4 := Lib.hid (HD3.out.trans (by rw [decide_eq_true (show xc ≤ left by omega), Bool.true_and]))
                have hn4 : xc ≤ left := by omega
                clear HD3 hn3
                rcases Nat.eq_zero_or_pos k with hk0 | hk0
                · have hI0 : decide ((0 : Int) < I) = false := decide_eq_false (by have := HI.out; omega)
                  have HD5 := Lib.hid (HD4.out.trans (by rw [show prevT bag k = none from if_pos hk0, prevOk, Bool.true_and]))
                  clear HD4 hk0
                  go_wp2_with fail
                  refine tr (S := (fun w' => w'.cell? ⟨wr.heap.size, 0, none⟩ = some (.int .i64 xk) ∧ w'.cell? ⟨wr.heap.size, 1, none⟩ = some (.int .i64 xn) ∧ w'.cell? ⟨wr.heap.size, 2, none⟩ = some (.string xs) ∧ w'.cell? ⟨w.heap.size, 0, none⟩ = some (.int .i64 p.kind) ∧ w'.cell? ⟨w.heap.size, 1, none⟩ = some (.int .i64 p.mode) ∧ w'.cell? ⟨w.heap.size, 2, none⟩ = some (.int .i64 p.low) ∧ w'.cell? ⟨w.heap.size, 3, none⟩ = some (.int .i64 p.high) ∧ w'.cell? ⟨w.heap.size, 4, none⟩ = some (.int .i64 p.size) ∧ w'.cell? ⟨w.heap.size, 5, none⟩ = some (.int .i64 p.limit) ∧ w'.cell? ⟨w.heap.size, 6, none⟩ = some (.slice A0 p.left.length c0) ∧ w'.cell? ⟨w.heap.size, 7, none⟩ = some (.slice A1 p.right.length c1) ∧ w'.cell? ⟨w.heap.size, 8, none⟩ = some (.slice A2 p.lkeys.length c2) ∧ w'.cell? ⟨w.heap.size, 9, none⟩ = some (.slice A3 p.rkeys.length c3) ∧ w'.cell? ⟨w.heap.size, 10, none⟩ = some (.bool p.grouped) ∧ w'.cell? ⟨w.heap.size, 11, none⟩ = some (.slice A4 p.group.length c4) ∧ w'.cell? ⟨w.heap.size, 12, none⟩ = some (.slice A5 p.aggs.length c5) ∧ w'.cell? ⟨w.heap.size + 1, 1, none⟩ = some (.int .i64 (m : Int)) ∧ w'.cell? ⟨bb, ob + k * 4 + 3, none⟩ = some (.int .i64 xc))) HH0.out (fun hHeld => ?_)
                  refine tk 0 ?_
                  refine tc 1 ?_
                  intro K hK
                  go_simp
                  refine (HCK.out _).mono ?_
                  rintro e w2 ⟨rfl, hb2⟩
                  have hbw2 := below_trans (Below.refl _ (wr.alloc (.cells #[.int .i64 xk, .int .i64 xn, .string xs] 112))).drew hb2
                  have hbw3 := hbw2
                  go_wp2_with fail
                  refine hK.out _ _ (HSS.out _ hbw2) (fun hHeld1 => ?_)
                  clear hK K
                  refine tk 2 ?_; refine tk 3 ?_; refine tk 4 ?_; refine tk 5 ?_; refine tk 6 ?_; refine tk 7 ?_; refine tn 8 ?_; refine tn 9 ?_; refine tn 10 ?_; refine tn 11 ?_; refine tn 12 ?_; refine tn 13 ?_
                  refine tn 14 ?_; refine tn 15 ?_; refine tn 16 ?_; refine tk 17 ?_; refine tk 18 ?_; refine tk 19 ?_; refine tk 20 ?_; refine tk 21 ?_; refine tk 22 ?_; refine tk 23 ?_; refine tk 24 ?_; refine tk 25 ?_
                  refine tk 26 ?_; refine tk 27 ?_; refine tk 28 ?_; refine tk 29 ?_; refine tk 30 ?_; refine tk 31 ?_; refine tk 32 ?_; refine tk 33 ?_; refine tk 34 ?_; refine tk 35 ?_; refine tk 36 ?_; refine tk 37 ?_
                  refine tk 38 ?_; refine tk 39 ?_; refine tn 40 ?_; refine tn 41 ?_; refine tn 42 ?_; refine tn 43 ?_; refine tn 44 ?_; refine tn 45 ?_; refine tn 46 ?_; refine tn 47 ?_; refine tn 48 ?_; refine tk 49 ?_
                  refine tk 50 ?_
                  refine td ?_
                  have dz := HCB.out _ (below_trans hBw1 hbw3)
                  go_wp2
                  go_roundw
                  case rel => exact ⟨k + 1, left - xc, I + 1, by have := HI.out; omega, by go_num, by go_num, by have := HI.out; omega, by omega, by omega, Lib.hid HD5.out, below_trans hbw1 hbw3⟩
                  case measure => have := HI.out; simp [intOf]; omega
                · obtain ⟨q, rfl⟩ : ∃ q, k = q + 1 := ⟨k - 1, by omega⟩
                  have hI0 : decide ((0 : Int) < I) = true := decide_eq_true (by have := HI.out; omega)
                  have hI1 : (0 : Int) ≤ I - 1 := by have := HI.out; omega
                  have hI1' : (1 : Int) ≤ I := by have := HI.out; omega
                  have hI2 : I - 1 < (bag.length : Int) := by omega
                  have hI3 : (I - 1).toNat = q := by have := HI.out; omega
                  have hI4 : IntKind.i64.wrap (I - 1) = I - 1 := by rw [IntKind.wrap_i64]; omega
                  have hyl : q < bag.length := by omega
                  have hy := List.getElem?_eq_getElem (l := bag) hyl
                  generalize bag[q] = y at hy
                  obtain ⟨b2, o2, hA2, -, hcy⟩ := tl_at HB.out rfl hy
                  injection hA2 with hA2
                  injection hA2 with e1 e2
                  subst e1 e2
                  have hp : prevT bag (q + 1) = some y.v := prevT_succ hy
                  obtain ⟨⟨yk, yn, ys⟩, yc⟩ := y
                  simp only at hcy hp
                  have HD5 : Hid (R = (decide (cmpV ⟨yk, yn, ys⟩ ⟨xk, xn, xs⟩ < 0) && bagG t (prevT bag (q + 1 + 1)) (left - xc) (bag.drop (q + 1 + 1)))) := Lib.hid (HD4.out.trans (by rw [hp, prevOk]))
                  have HYS := Lib.hid (fun w' (h : Below (wr.alloc (.cells #[.int .i64 xk, .int .i64 xn, .string xs] 112)).heap.size (wr.alloc (.cells #[.int .i64 xk, .int .i64 xn, .string xs] 112)) w') => let z := HSS.out w' h; let u := hcy w' (below_trans hBw1 h); And.intro (z.1) (And.intro (z.2.1) (And.intro (z.2.2.1) (And.intro (z.2.2.2.1) (And.intro (z.2.2.2.2.1) (And.intro (z.2.2.2.2.2.1) (And.intro (z.2.2.2.2.2.2.1) (And.intro (z.2.2.2.2.2.2.2.1) (And.intro (z.2.2.2.2.2.2.2.2.1) (And.intro (z.2.2.2.2.2.2.2.2.2.1) (And.intro (z.2.2.2.2.2.2.2.2.2.2.1) (And.intro (z.2.2.2.2.2.2.2.2.2.2.2.1) (And.intro (z.2.2.2.2.2.2.2.2.2.2.2.2.1) (And.intro (z.2.2.2.2.2.2.2.2.2.2.2.2.2.1) (And.intro (z.2.2.2.2.2.2.2.2.2.2.2.2.2.2.1) (And.intro (z.2.2.2.2.2.2.2.2.2.2.2.2.2.2.2.1) (And.intro (z.2.2.2.2.2.2.2.2.2.2.2.2.2.2.2.2.1) (And.intro (z.2.2.2.2.2.2.2.2.2.2.2.2.2.2.2.2.2) (And.intro (u.1) (And.intro (u.2.1) (u.2.2.1)))))))))))))))))))))
                  have HH1 := Lib.hid (HYS.out _ (Below.refl _ (wr.alloc (.cells #[.int .i64 xk, .int .i64 xn, .string xs] 112))).drew)
                  have HCP := Lib.hid (fun W => rcompare_val ⟨yk, yn, ys⟩ ⟨xk, xn, xs⟩ W)
                  generalize cmpV ⟨yk, yn, ys⟩ ⟨xk, xn, xs⟩ = CP at HD5 HCP
                  simp only at HCP
                  clear HD4 hk0 hyl hy hcy hp HSS HH0
                  by_cases hcp : CP < 0
                  · have q6 : decide (0 ≤ CP) = false := decide_eq_false (by omega)
                    have HD6 := Lib.hid (HD5.out.trans (by rw [decide_eq_true hcp, Bool.true_and]))
                    clear HD5 hcp
                    go_wp2_with fail
                    refine tr (S := (fun w' => w'.cell? ⟨wr.heap.size, 0, none⟩ = some (.int .i64 xk) ∧ w'.cell? ⟨wr.heap.size, 1, none⟩ = some (.int .i64 xn) ∧ w'.cell? ⟨wr.heap.size, 2, none⟩ = some (.string xs) ∧ w'.cell? ⟨w.heap.size, 0, none⟩ = some (.int .i64 p.kind) ∧ w'.cell? ⟨w.heap.size, 1, none⟩ = some (.int .i64 p.mode) ∧ w'.cell? ⟨w.heap.size, 2, none⟩ = some (.int .i64 p.low) ∧ w'.cell? ⟨w.heap.size, 3, none⟩ = some (.int .i64 p.high) ∧ w'.cell? ⟨w.heap.size, 4, none⟩ = some (.int .i64 p.size) ∧ w'.cell? ⟨w.heap.size, 5, none⟩ = some (.int .i64 p.limit) ∧ w'.cell? ⟨w.heap.size, 6, none⟩ = some (.slice A0 p.left.length c0) ∧ w'.cell? ⟨w.heap.size, 7, none⟩ = some (.slice A1 p.right.length c1) ∧ w'.cell? ⟨w.heap.size, 8, none⟩ = some (.slice A2 p.lkeys.length c2) ∧ w'.cell? ⟨w.heap.size, 9, none⟩ = some (.slice A3 p.rkeys.length c3) ∧ w'.cell? ⟨w.heap.size, 10, none⟩ = some (.bool p.grouped) ∧ w'.cell? ⟨w.heap.size, 11, none⟩ = some (.slice A4 p.group.length c4) ∧ w'.cell? ⟨w.heap.size, 12, none⟩ = some (.slice A5 p.aggs.length c5) ∧ w'.cell? ⟨w.heap.size + 1, 1, none⟩ = some (.int .i64 (m : Int)) ∧ w'.cell? ⟨bb, ob + (q + 1) * 4 + 3, none⟩ = some (.int .i64 xc) ∧ w'.cell? ⟨bb, ob + q * 4, none⟩ = some (.int .i64 yk) ∧ w'.cell? ⟨bb, ob + q * 4 + 1, none⟩ = some (.int .i64 yn) ∧ w'.cell? ⟨bb, ob + q * 4 + 2, none⟩ = some (.string ys))) HH1.out (fun hHeld => ?_)
                    refine tk 0 ?_
                    refine tc 1 ?_
                    intro K hK
                    go_simp
                    refine (HCK.out _).mono ?_
                    rintro e w2 ⟨rfl, hb2⟩
                    have hbw2 := below_trans (Below.refl _ (wr.alloc (.cells #[.int .i64 xk, .int .i64 xn, .string xs] 112))).drew hb2
                    have hbw3 := hbw2
                    go_wp2_with fail
                    refine hK.out _ _ (HYS.out _ hbw2) (fun hHeld1 => ?_)
                    clear hK K
                    refine tk 2 ?_; refine tk 3 ?_; refine tk 4 ?_; refine tk 5 ?_; refine tk 6 ?_; refine tk 7 ?_; refine tn 8 ?_; refine tn 9 ?_; refine tn 10 ?_; refine tn 11 ?_; refine tn 12 ?_; refine tn 13 ?_
                    refine tn 14 ?_; refine tn 15 ?_; refine tn 16 ?_; refine tk 17 ?_; refine tk 18 ?_; refine tk 19 ?_; refine tk 20 ?_; refine tk 21 ?_; refine tk 22 ?_; refine tk 23 ?_; refine tk 24 ?_; refine tk 25 ?_
                    refine tk 26 ?_; refine tk 27 ?_; refine tk 28 ?_; refine tk 29 ?_; refine tk 30 ?_; refine tk 31 ?_; refine tk 32 ?_; refine tk 33 ?_; refine tk 34 ?_; refine tk 35 ?_; refine tk 36 ?_; refine tk 37 ?_
                    refine tk 38 ?_; refine tk 39 ?_; refine tk 40 ?_; refine tk 41 ?_; refine tk 42 ?_; refine tk 43 ?_; refine tk 44 ?_; refine tk 45 ?_; refine tk 46 ?_
                    refine tc 47 ?_
                    intro K hK
                    go_simp
                    refine (HCP.out _).mono ?_
                    rintro e w4 ⟨rfl, hb4⟩
                    have hbw4 := below_trans hbw3 hb4
                    go_wp2_with fail
                    refine hK.out _ _ (HYS.out _ hbw4) (fun hHeld47 => ?_)
                    clear hK K
                    refine tk 48 ?_; refine tk 49 ?_; refine tk 50 ?_
                    refine td ?_
                    have dz := HCB.out _ (below_trans hBw1 hbw4)
                    go_wp2
                    go_roundw
                    case rel => exact ⟨(q + 1) + 1, left - xc, I + 1, by have := HI.out; omega, by go_num, by go_num, by have := HI.out; omega, by omega, by omega, Lib.hid HD6.out, below_trans hbw1 hbw4⟩
                    case measure => have := HI.out; simp [intOf]; omega
                  · have q6 : decide (0 ≤ CP) = true := decide_eq_true (by omega)
                    have EE : Hid (R = false) := Lib.hid (HD5.out.trans (by rw [decide_eq_false hcp]; rfl))
                    clear HD5 hcp
                    go_wp2_with fail
                    refine tr (S := (fun w' => w'.cell? ⟨wr.heap.size, 0, none⟩ = some (.int .i64 xk) ∧ w'.cell? ⟨wr.heap.size, 1, none⟩ = some (.int .i64 xn) ∧ w'.cell? ⟨wr.heap.size, 2, none⟩ = some (.string xs) ∧ w'.cell? ⟨w.heap.size, 0, none⟩ = some (.int .i64 p.kind) ∧ w'.cell? ⟨w.heap.size, 1, none⟩ = some (.int .i64 p.mode) ∧ w'.cell? ⟨w.heap.size, 2, none⟩ = some (.int .i64 p.low) ∧ w'.cell? ⟨w.heap.size, 3, none⟩ = some (.int .i64 p.high) ∧ w'.cell? ⟨w.heap.size, 4, none⟩ = some (.int .i64 p.size) ∧ w'.cell? ⟨w.heap.size, 5, none⟩ = some (.int .i64 p.limit) ∧ w'.cell? ⟨w.heap.size, 6, none⟩ = some (.slice A0 p.left.length c0) ∧ w'.cell? ⟨w.heap.size, 7, none⟩ = some (.slice A1 p.right.length c1) ∧ w'.cell? ⟨w.heap.size, 8, none⟩ = some (.slice A2 p.lkeys.length c2) ∧ w'.cell? ⟨w.heap.size, 9, none⟩ = some (.slice A3 p.rkeys.length c3) ∧ w'.cell? ⟨w.heap.size, 10, none⟩ = some (.bool p.grouped) ∧ w'.cell? ⟨w.heap.size, 11, none⟩ = some (.slice A4 p.group.length c4) ∧ w'.cell? ⟨w.heap.size, 12, none⟩ = some (.slice A5 p.aggs.length c5) ∧ w'.cell? ⟨w.heap.size + 1, 1, none⟩ = some (.int .i64 (m : Int)) ∧ w'.cell? ⟨bb, ob + (q + 1) * 4 + 3, none⟩ = some (.int .i64 xc) ∧ w'.cell? ⟨bb, ob + q * 4, none⟩ = some (.int .i64 yk) ∧ w'.cell? ⟨bb, ob + q * 4 + 1, none⟩ = some (.int .i64 yn) ∧ w'.cell? ⟨bb, ob + q * 4 + 2, none⟩ = some (.string ys))) HH1.out (fun hHeld => ?_)
                    refine tk 0 ?_
                    refine tc 1 ?_
                    intro K hK
                    go_simp
                    refine (HCK.out _).mono ?_
                    rintro e w2 ⟨rfl, hb2⟩
                    have hbw2 := below_trans (Below.refl _ (wr.alloc (.cells #[.int .i64 xk, .int .i64 xn, .string xs] 112))).drew hb2
                    have hbw3 := hbw2
                    go_wp2_with fail
                    refine hK.out _ _ (HYS.out _ hbw2) (fun hHeld1 => ?_)
                    clear hK K
                    refine tk 2 ?_; refine tk 3 ?_; refine tk 4 ?_; refine tk 5 ?_; refine tk 6 ?_; refine tk 7 ?_; refine tn 8 ?_; refine tn 9 ?_; refine tn 10 ?_; refine tn 11 ?_; refine tn 12 ?_; refine tn 13 ?_
                    refine tn 14 ?_; refine tn 15 ?_; refine tn 16 ?_; refine tk 17 ?_; refine tk 18 ?_; refine tk 19 ?_; refine tk 20 ?_; refine tk 21 ?_; refine tk 22 ?_; refine tk 23 ?_; refine tk 24 ?_; refine tk 25 ?_
                    refine tk 26 ?_; refine tk 27 ?_; refine tk 28 ?_; refine tk 29 ?_; refine tk 30 ?_; refine tk 31 ?_; refine tk 32 ?_; refine tk 33 ?_; refine tk 34 ?_; refine tk 35 ?_; refine tk 36 ?_; refine tk 37 ?_
                    refine tk 38 ?_; refine tk 39 ?_; refine tk 40 ?_; refine tk 41 ?_; refine tk 42 ?_; refine tk 43 ?_; refine tk 44 ?_; refine tk 45 ?_; refine tk 46 ?_
                    refine tc 47 ?_
                    intro K hK
                    go_simp
                    refine (HCP.out _).mono ?_
                    rintro e w4 ⟨rfl, hb4⟩
                    have hbw4 := below_trans hbw3 hb4
                    go_wp2_with fail
                    refine hK.out _ _ (HYS.out _ hbw4) (fun hHeld47 => ?_)
                    clear hK K
                    refine tk 48 ?_; refine tk 49 ?_; refine tk 50 ?_
                    refine td ?_
                    go_wp2
                    go_ret
                    exact ⟨by rw [EE.out]; rfl, below_trans hBw1 hbw4⟩
          · have qk := bneT hk0
            have HD1b := Lib.hid (HD1.out.trans (by rw [beqF hk0, Bool.false_or]))
            clear HD1 hk0
            by_cases hkt : xk = t
            · have qt := bneF hkt
              have HD2 := Lib.hid (HD1b.out.trans (by rw [beqT hkt, Bool.true_and]))
              clear HD1b hkt
              by_cases hn1 : xc < 1
              · have EE : Hid (R = false) := Lib.hid (HD2.out.trans (by rw [decide_eq_false (by omega)]; rfl))
                have q4 : decide (xc < 1) = true := decide_eq_true hn1
                clear HD2 hn1
                go_wp2_with fail
                refine tr (S := (fun w' => w'.cell? ⟨wr.heap.size, 0, none⟩ = some (.int .i64 xk) ∧ w'.cell? ⟨wr.heap.size, 1, none⟩ = some (.int .i64 xn) ∧ w'.cell? ⟨wr.heap.size, 2, none⟩ = some (.string xs) ∧ w'.cell? ⟨w.heap.size, 0, none⟩ = some (.int .i64 p.kind) ∧ w'.cell? ⟨w.heap.size, 1, none⟩ = some (.int .i64 p.mode) ∧ w'.cell? ⟨w.heap.size, 2, none⟩ = some (.int .i64 p.low) ∧ w'.cell? ⟨w.heap.size, 3, none⟩ = some (.int .i64 p.high) ∧ w'.cell? ⟨w.heap.size, 4, none⟩ = some (.int .i64 p.size) ∧ w'.cell? ⟨w.heap.size, 5, none⟩ = some (.int .i64 p.limit) ∧ w'.cell? ⟨w.heap.size, 6, none⟩ = some (.slice A0 p.left.length c0) ∧ w'.cell? ⟨w.heap.size, 7, none⟩ = some (.slice A1 p.right.length c1) ∧ w'.cell? ⟨w.heap.size, 8, none⟩ = some (.slice A2 p.lkeys.length c2) ∧ w'.cell? ⟨w.heap.size, 9, none⟩ = some (.slice A3 p.rkeys.length c3) ∧ w'.cell? ⟨w.heap.size, 10, none⟩ = some (.bool p.grouped) ∧ w'.cell? ⟨w.heap.size, 11, none⟩ = some (.slice A4 p.group.length c4) ∧ w'.cell? ⟨w.heap.size, 12, none⟩ = some (.slice A5 p.aggs.length c5) ∧ w'.cell? ⟨w.heap.size + 1, 1, none⟩ = some (.int .i64 (m : Int)) ∧ w'.cell? ⟨bb, ob + k * 4 + 3, none⟩ = some (.int .i64 xc))) HH0.out (fun hHeld => ?_)
                refine tk 0 ?_
                refine tc 1 ?_
                intro K hK
                go_simp
                refine (HCK.out _).mono ?_
                rintro e w2 ⟨rfl, hb2⟩
                have hbw2 := below_trans (Below.refl _ (wr.alloc (.cells #[.int .i64 xk, .int .i64 xn, .string xs] 112))).drew hb2
                go_wp2_with fail
                refine hK.out _ _ (HSS.out _ hbw2) (fun hHeld1 => ?_)
                clear hK K
                refine tk 2 ?_; refine tk 3 ?_; refine tk 4 ?_; refine tk 5 ?_; refine tk 6 ?_; refine tk 7 ?_; refine tk 8 ?_; refine tk 9 ?_; refine tk 10 ?_; refine tk 12 ?_; refine tk 13 ?_
                refine tc 11 ?_
                intro K hK
                go_simp
                refine Calls.mono (by with_reducible exact HTY.out _ (below_trans hBw1 hbw2)) ?_
                rintro e w3 ⟨vt, rfl, hst, -, hb3⟩
                obtain ⟨At, ct, rfl, -⟩ := id hst
                obtain ⟨bt, ot, rfl, -, hct⟩ := int_at hst rfl hm
                rw [HTT.out] at hct
                have d9 := hct _ (Below.refl _ _)
                have hbw3 := below_trans hbw2 hb3
                clear hst hct
                go_wp2_with fail
                refine hK.out _ _ (HSS.out _ hbw3) (fun hHeld11 => ?_)
                clear hK K
                refine tk 14 ?_
                refine tc 15 ?_
                intro K hK
                go_simp
                clear d9
                refine hK.out _ _ (HSS.out _ hbw3) (fun hHeld15 => ?_)
                clear hK K
                refine tk 16 ?_; refine tk 17 ?_; refine tk 18 ?_; refine tk 19 ?_; refine tk 20 ?_; refine tk 21 ?_; refine tk 22 ?_; refine tk 23 ?_; refine tk 24 ?_; refine tk 25 ?_; refine tk 26 ?_; refine tk 27 ?_
                refine tn 28 ?_; refine tn 29 ?_; refine tn 30 ?_; refine tn 31 ?_; refine tn 32 ?_; refine tn 33 ?_; refine tn 34 ?_; refine tk 35 ?_; refine tk 36 ?_; refine tn 37 ?_; refine tn 38 ?_; refine tn 39 ?_
                refine tn 40 ?_; refine tn 41 ?_; refine tn 42 ?_; refine tn 43 ?_; refine tn 44 ?_; refine tn 45 ?_; refine tn 46 ?_; refine tn 47 ?_; refine tn 48 ?_; refine tn 49 ?_; refine tk 50 ?_
                refine td ?_
                go_wp2
                go_ret
                exact ⟨by rw [EE.out]; rfl, below_trans hBw1 hbw3⟩
              · have q4 : decide (xc < 1) = false := decide_eq_false hn1
                have HD3 := Lib.hid (HD2.out.trans (by rw [decide_eq_true (show 1 ≤ xc by omega), Bool.true_and]))
                have hn2 : 1 ≤ xc := by omega
                clear HD2 hn1
                by_cases hn3 : left < xc
                · have EE : Hid (R = false) := Lib.hid (HD3.out.trans (by rw [decide_eq_false (by omega)]; rfl))
                  have q5 : decide (left < xc) = true := decide_eq_true hn3
                  clear HD3 hn2 hn3
                  go_wp2_with fail
                  refine tr (S := (fun w' => w'.cell? ⟨wr.heap.size, 0, none⟩ = some (.int .i64 xk) ∧ w'.cell? ⟨wr.heap.size, 1, none⟩ = some (.int .i64 xn) ∧ w'.cell? ⟨wr.heap.size, 2, none⟩ = some (.string xs) ∧ w'.cell? ⟨w.heap.size, 0, none⟩ = some (.int .i64 p.kind) ∧ w'.cell? ⟨w.heap.size, 1, none⟩ = some (.int .i64 p.mode) ∧ w'.cell? ⟨w.heap.size, 2, none⟩ = some (.int .i64 p.low) ∧ w'.cell? ⟨w.heap.size, 3, none⟩ = some (.int .i64 p.high) ∧ w'.cell? ⟨w.heap.size, 4, none⟩ = some (.int .i64 p.size) ∧ w'.cell? ⟨w.heap.size, 5, none⟩ = some (.int .i64 p.limit) ∧ w'.cell? ⟨w.heap.size, 6, none⟩ = some (.slice A0 p.left.length c0) ∧ w'.cell? ⟨w.heap.size, 7, none⟩ = some (.slice A1 p.right.length c1) ∧ w'.cell? ⟨w.heap.size, 8, none⟩ = some (.slice A2 p.lkeys.length c2) ∧ w'.cell? ⟨w.heap.size, 9, none⟩ = some (.slice A3 p.rkeys.length c3) ∧ w'.cell? ⟨w.heap.size, 10, none⟩ = some (.bool p.grouped) ∧ w'.cell? ⟨w.heap.size, 11, none⟩ = some (.slice A4 p.group.length c4) ∧ w'.cell? ⟨w.heap.size, 12, none⟩ = some (.slice A5 p.aggs.length c5) ∧ w'.cell? ⟨w.heap.size + 1, 1, none⟩ = some (.int .i64 (m : Int)) ∧ w'.cell? ⟨bb, ob + k * 4 + 3, none⟩ = some (.int .i64 xc))) HH0.out (fun hHeld => ?_)
                  refine tk 0 ?_
                  refine tc 1 ?_
                  intro K hK
                  go_simp
                  refine (HCK.out _).mono ?_
                  rintro e w2 ⟨rfl, hb2⟩
                  have hbw2 := below_trans (Below.refl _ (wr.alloc (.cells #[.int .i64 xk, .int .i64 xn, .string xs] 112))).drew hb2
                  go_wp2_with fail
                  refine hK.out _ _ (HSS.out _ hbw2) (fun hHeld1 => ?_)
                  clear hK K
                  refine tk 2 ?_; refine tk 3 ?_; refine tk 4 ?_; refine tk 5 ?_; refine tk 6 ?_; refine tk 7 ?_; refine tk 8 ?_; refine tk 9 ?_; refine tk 10 ?_; refine tk 12 ?_; refine tk 13 ?_
                  refine tc 11 ?_
                  intro K hK
                  go_simp
                  refine Calls.mono (by with_reducible exact HTY.out _ (below_trans hBw1 hbw2)) ?_
                  rintro e w3 ⟨vt, rfl, hst, -, hb3⟩
                  obtain ⟨At, ct, rfl, -⟩ := id hst
                  obtain ⟨bt, ot, rfl, -, hct⟩ := int_at hst rfl hm
                  rw [HTT.out] at hct
                  have d9 := hct _ (Below.refl _ _)
                  have hbw3 := below_trans hbw2 hb3
                  clear hst hct
                  go_wp2_with fail
                  refine hK.out _ _ (HSS.out _ hbw3) (fun hHeld11 => ?_)
                  clear hK K
                  refine tk 14 ?_
                  refine tc 15 ?_
                  intro K hK
                  go_simp
                  clear d9
                  refine hK.out _ _ (HSS.out _ hbw3) (fun hHeld15 => ?_)
                  clear hK K
                  refine tk 16 ?_; refine tk 17 ?_; refine tk 18 ?_; refine tk 19 ?_; refine tk 20 ?_; refine tk 21 ?_; refine tk 22 ?_; refine tk 23 ?_; refine tk 24 ?_; refine tk 25 ?_; refine tk 26 ?_; refine tk 27 ?_
                  refine tk 28 ?_; refine tk 29 ?_; refine tk 30 ?_; refine tk 31 ?_; refine tk 32 ?_; refine tk 33 ?_; refine tk 34 ?_; refine tk 35 ?_; refine tk 36 ?_; refine tn 37 ?_; refine tn 38 ?_; refine tn 39 ?_
                  refine tn 40 ?_; refine tn 41 ?_; refine tn 42 ?_; refine tn 43 ?_; refine tn 44 ?_; refine tn 45 ?_; refine tn 46 ?_; refine tn 47 ?_; refine tn 48 ?_; refine tn 49 ?_; refine tk 50 ?_
                  refine td ?_
                  go_wp2
                  go_ret
                  exact ⟨by rw [EE.out]; rfl, below_trans hBw1 hbw3⟩
                · have q5 : decide (left < xc) = false := decide_eq_false hn3
                  have HD4 := Lib.hid (HD3.out.trans (by rw [decide_eq_true (show xc ≤ left by omega), Bool.true_and]))
                  have hn4 : xc ≤ left := by omega
                  clear HD3 hn3
                  rcases Nat.eq_zero_or_pos k with hk0 | hk0
                  · have hI0 : decide ((0 : Int) < I) = false := decide_eq_false (by have := HI.out; omega)
                    have HD5 := Lib.hid (HD4.out.trans (by rw [show prevT bag k = none from if_pos hk0, prevOk, Bool.true_and]))
                    clear HD4 hk0
                    go_wp2_with fail
                    refine tr (S := (fun w' => w'.cell? ⟨wr.heap.size, 0, none⟩ = some (.int .i64 xk) ∧ w'.cell? ⟨wr.heap.size, 1, none⟩ = some (.int .i64 xn) ∧ w'.cell? ⟨wr.heap.size, 2, none⟩ = some (.string xs) ∧ w'.cell? ⟨w.heap.size, 0, none⟩ = some (.int .i64 p.kind) ∧ w'.cell? ⟨w.heap.size, 1, none⟩ = some (.int .i64 p.mode) ∧ w'.cell? ⟨w.heap.size, 2, none⟩ = some (.int .i64 p.low) ∧ w'.cell? ⟨w.heap.size, 3, none⟩ = some (.int .i64 p.high) ∧ w'.cell? ⟨w.heap.size, 4, none⟩ = some (.int .i64 p.size) ∧ w'.cell? ⟨w.heap.size, 5, none⟩ = some (.int .i64 p.limit) ∧ w'.cell? ⟨w.heap.size, 6, none⟩ = some (.slice A0 p.left.length c0) ∧ w'.cell? ⟨w.heap.size, 7, none⟩ = some (.slice A1 p.right.length c1) ∧ w'.cell? ⟨w.heap.size, 8, none⟩ = some (.slice A2 p.lkeys.length c2) ∧ w'.cell? ⟨w.heap.size, 9, none⟩ = some (.slice A3 p.rkeys.length c3) ∧ w'.cell? ⟨w.heap.size, 10, none⟩ = some (.bool p.grouped) ∧ w'.cell? ⟨w.heap.size, 11, none⟩ = some (.slice A4 p.group.length c4) ∧ w'.cell? ⟨w.heap.size, 12, none⟩ = some (.slice A5 p.aggs.length c5) ∧ w'.cell? ⟨w.heap.size + 1, 1, none⟩ = some (.int .i64 (m : Int)) ∧ w'.cell? ⟨bb, ob + k * 4 + 3, none⟩ = some (.int .i64 xc))) HH0.out (fun hHeld => ?_)
                    refine tk 0 ?_
                    refine tc 1 ?_
                    intro K hK
                    go_simp
                    refine (HCK.out _).mono ?_
                    rintro e w2 ⟨rfl, hb2⟩
                    have hbw2 := below_trans (Below.refl _ (wr.alloc (.cells #[.int .i64 xk, .int .i64 xn, .string xs] 112))).drew hb2
                    go_wp2_with fail
                    refine hK.out _ _ (HSS.out _ hbw2) (fun hHeld1 => ?_)
                    clear hK K
                    refine tk 2 ?_; refine tk 3 ?_; refine tk 4 ?_; refine tk 5 ?_; refine tk 6 ?_; refine tk 7 ?_; refine tk 8 ?_; refine tk 9 ?_; refine tk 10 ?_; refine tk 12 ?_; refine tk 13 ?_
                    refine tc 11 ?_
                    intro K hK
                    go_simp
                    refine Calls.mono (by with_reducible exact HTY.out _ (below_trans hBw1 hbw2)) ?_
                    rintro e w3 ⟨vt, rfl, hst, -, hb3⟩
                    obtain ⟨At, ct, rfl, -⟩ := id hst
                    obtain ⟨bt, ot, rfl, -, hct⟩ := int_at hst rfl hm
                    rw [HTT.out] at hct
                    have d9 := hct _ (Below.refl _ _)
                    have hbw3 := below_trans hbw2 hb3
                    clear hst hct
                    go_wp2_with fail
                    refine hK.out _ _ (HSS.out _ hbw3) (fun hHeld11 => ?_)
                    clear hK K
                    refine tk 14 ?_
                    refine tc 15 ?_
                    intro K hK
                    go_simp
                    clear d9
                    refine hK.out _ _ (HSS.out _ hbw3) (fun hHeld15 => ?_)
                    clear hK K
                    refine tk 16 ?_; refine tk 17 ?_; refine tk 18 ?_; refine tk 19 ?_; refine tk 20 ?_; refine tk 21 ?_; refine tk 22 ?_; refine tk 23 ?_; refine tk 24 ?_; refine tk 25 ?_; refine tk 26 ?_; refine tk 27 ?_
                    refine tk 28 ?_; refine tk 29 ?_; refine tk 30 ?_; refine tk 31 ?_; refine tk 32 ?_; refine tk 33 ?_; refine tk 34 ?_; refine tk 35 ?_; refine tk 36 ?_; refine tk 37 ?_; refine tk 38 ?_; refine tk 39 ?_
                    refine tn 40 ?_; refine tn 41 ?_; refine tn 42 ?_; refine tn 43 ?_; refine tn 44 ?_; refine tn 45 ?_; refine tn 46 ?_; refine tn 47 ?_; refine tn 48 ?_; refine tk 49 ?_; refine tk 50 ?_
                    refine td ?_
                    have dz := HCB.out _ (below_trans hBw1 hbw3)
                    go_wp2
                    go_roundw
                    case rel => exact ⟨k + 1, left - xc, I + 1, by have := HI.out; omega, by go_num, by go_num, by have := HI.out; omega, by omega, by omega, Lib.hid HD5.out, below_trans hbw1 hbw3⟩
                    case measure => have := HI.out; simp [intOf]; omega
                  · obtain ⟨q, rfl⟩ : ∃ q, k = q + 1 := ⟨k - 1, by omega⟩
                    have hI0 : decide ((0 : Int) < I) = true := decide_eq_true (by have := HI.out; omega)
                    have hI1 : (0 : Int) ≤ I - 1 := by have := HI.out; omega
                    have hI1' : (1 : Int) ≤ I := by have := HI.out; omega
                    have hI2 : I - 1 < (bag.length : Int) := by omega
                    have hI3 : (I - 1).toNat = q := by have := HI.out; omega
                    have hI4 : IntKind.i64.wrap (I - 1) = I - 1 := by rw [IntKind.wrap_i64]; omega
                    have hyl : q < bag.length := by omega
                    have hy := List.getElem?_eq_getElem (l := bag) hyl
                    generalize bag[q] = y at hy
                    obtain ⟨b2, o2, hA2, -, hcy⟩ := tl_at HB.out rfl hy
                    injection hA2 with hA2
                    injection hA2 with e1 e2
                    subst e1 e2
                    have hp : prevT bag (q + 1) = some y.v := prevT_succ hy
                    obtain ⟨⟨yk, yn, ys⟩, yc⟩ := y
                    simp only at hcy hp
                    have HD5 : Hid (R = (decide (cmpV ⟨yk, yn, ys⟩ ⟨xk, xn, xs⟩ < 0) && bagG t (prevT bag (q + 1 + 1)) (left - xc) (bag.drop (q + 1 + 1)))) := Lib.hid (HD4.out.trans (by rw [hp, prevOk]))
                    have HYS := Lib.hid (fun w' (h : Below (wr.alloc (.cells #[.int .i64 xk, .int .i64 xn, .string xs] 112)).heap.size (wr.alloc (.cells #[.int .i64 xk, .int .i64 xn, .string xs] 112)) w') => let z := HSS.out w' h; let u := hcy w' (below_trans hBw1 h); And.intro (z.1) (And.intro (z.2.1) (And.intro (z.2.2.1) (And.intro (z.2.2.2.1) (And.intro (z.2.2.2.2.1) (And.intro (z.2.2.2.2.2.1) (And.intro (z.2.2.2.2.2.2.1) (And.intro (z.2.2.2.2.2.2.2.1) (And.intro (z.2.2.2.2.2.2.2.2.1) (And.intro (z.2.2.2.2.2.2.2.2.2.1) (And.intro (z.2.2.2.2.2.2.2.2.2.2.1) (And.intro (z.2.2.2.2.2.2.2.2.2.2.2.1) (And.intro (z.2.2.2.2.2.2.2.2.2.2.2.2.1) (And.intro (z.2.2.2.2.2.2.2.2.2.2.2.2.2.1) (And.intro (z.2.2.2.2.2.2.2.2.2.2.2.2.2.2.1) (And.intro (z.2.2.2.2.2.2.2.2.2.2.2.2.2.2.2.1) (And.intro (z.2.2.2.2.2.2.2.2.2.2.2.2.2.2.2.2.1) (And.intro (z.2.2.2.2.2.2.2.2.2.2.2.2.2.2.2.2.2) (And.intro (u.1) (And.intro (u.2.1) (u.2.2.1)))))))))))))))))))))
                    have HH1 := Lib.hid (HYS.out _ (Below.refl _ (wr.alloc (.cells #[.int .i64 xk, .int .i64 xn, .string xs] 112))).drew)
                    have HCP := Lib.hid (fun W => rcompare_val ⟨yk, yn, ys⟩ ⟨xk, xn, xs⟩ W)
                    generalize cmpV ⟨yk, yn, ys⟩ ⟨xk, xn, xs⟩ = CP at HD5 HCP
                    simp only at HCP
                    clear HD4 hk0 hyl hy hcy hp HSS HH0
                    by_cases hcp : CP < 0
                    · have q6 : decide (0 ≤ CP) = false := decide_eq_false (by omega)
                      have HD6 := Lib.hid (HD5.out.trans (by rw [decide_eq_true hcp, Bool.true_and]))
                      clear HD5 hcp
                      go_wp2_with fail
                      refine tr (S := (fun w' => w'.cell? ⟨wr.heap.size, 0, none⟩ = some (.int .i64 xk) ∧ w'.cell? ⟨wr.heap.size, 1, none⟩ = some (.int .i64 xn) ∧ w'.cell? ⟨wr.heap.size, 2, none⟩ = some (.string xs) ∧ w'.cell? ⟨w.heap.size, 0, none⟩ = some (.int .i64 p.kind) ∧ w'.cell? ⟨w.heap.size, 1, none⟩ = some (.int .i64 p.mode) ∧ w'.cell? ⟨w.heap.size, 2, none⟩ = some (.int .i64 p.low) ∧ w'.cell? ⟨w.heap.size, 3, none⟩ = some (.int .i64 p.high) ∧ w'.cell? ⟨w.heap.size, 4, none⟩ = some (.int .i64 p.size) ∧ w'.cell? ⟨w.heap.size, 5, none⟩ = some (.int .i64 p.limit) ∧ w'.cell? ⟨w.heap.size, 6, none⟩ = some (.slice A0 p.left.length c0) ∧ w'.cell? ⟨w.heap.size, 7, none⟩ = some (.slice A1 p.right.length c1) ∧ w'.cell? ⟨w.heap.size, 8, none⟩ = some (.slice A2 p.lkeys.length c2) ∧ w'.cell? ⟨w.heap.size, 9, none⟩ = some (.slice A3 p.rkeys.length c3) ∧ w'.cell? ⟨w.heap.size, 10, none⟩ = some (.bool p.grouped) ∧ w'.cell? ⟨w.heap.size, 11, none⟩ = some (.slice A4 p.group.length c4) ∧ w'.cell? ⟨w.heap.size, 12, none⟩ = some (.slice A5 p.aggs.length c5) ∧ w'.cell? ⟨w.heap.size + 1, 1, none⟩ = some (.int .i64 (m : Int)) ∧ w'.cell? ⟨bb, ob + (q + 1) * 4 + 3, none⟩ = some (.int .i64 xc) ∧ w'.cell? ⟨bb, ob + q * 4, none⟩ = some (.int .i64 yk) ∧ w'.cell? ⟨bb, ob + q * 4 + 1, none⟩ = some (.int .i64 yn) ∧ w'.cell? ⟨bb, ob + q * 4 + 2, none⟩ = some (.string ys))) HH1.out (fun hHeld => ?_)
                      refine tk 0 ?_
                      refine tc 1 ?_
                      intro K hK
                      go_simp
                      refine (HCK.out _).mono ?_
                      rintro e w2 ⟨rfl, hb2⟩
                      have hbw2 := below_trans (Below.refl _ (wr.alloc (.cells #[.int .i64 xk, .int .i64 xn, .string xs] 112))).drew hb2
                      go_wp2_with fail
                      refine hK.out _ _ (HYS.out _ hbw2) (fun hHeld1 => ?_)
                      clear hK K
                      refine tk 2 ?_; refine tk 3 ?_; refine tk 4 ?_; refine tk 5 ?_; refine tk 6 ?_; refine tk 7 ?_; refine tk 8 ?_; refine tk 9 ?_; refine tk 10 ?_; refine tk 12 ?_; refine tk 13 ?_
                      refine tc 11 ?_
                      intro K hK
                      go_simp
                      refine Calls.mono (by with_reducible exact HTY.out _ (below_trans hBw1 hbw2)) ?_
                      rintro e w3 ⟨vt, rfl, hst, -, hb3⟩
                      obtain ⟨At, ct, rfl, -⟩ := id hst
                      obtain ⟨bt, ot, rfl, -, hct⟩ := int_at hst rfl hm
                      rw [HTT.out] at hct
                      have d9 := hct _ (Below.refl _ _)
                      have hbw3 := below_trans hbw2 hb3
                      clear hst hct
                      go_wp2_with fail
                      refine hK.out _ _ (HYS.out _ hbw3) (fun hHeld11 => ?_)
                      clear hK K
                      refine tk 14 ?_
                      refine tc 15 ?_
                      intro K hK
                      go_simp
                      clear d9
                      refine hK.out _ _ (HYS.out _ hbw3) (fun hHeld15 => ?_)
                      clear hK K
                      refine tk 16 ?_; refine tk 17 ?_; refine tk 18 ?_; refine tk 19 ?_; refine tk 20 ?_; refine tk 21 ?_; refine tk 22 ?_; refine tk 23 ?_; refine tk 24 ?_; refine tk 25 ?_; refine tk 26 ?_; refine tk 27 ?_
                      refine tk 28 ?_; refine tk 29 ?_; refine tk 30 ?_; refine tk 31 ?_; refine tk 32 ?_; refine tk 33 ?_; refine tk 34 ?_; refine tk 35 ?_; refine tk 36 ?_; refine tk 37 ?_; refine tk 38 ?_; refine tk 39 ?_
                      refine tk 40 ?_; refine tk 41 ?_; refine tk 42 ?_; refine tk 43 ?_; refine tk 44 ?_; refine tk 45 ?_; refine tk 46 ?_
                      refine tc 47 ?_
                      intro K hK
                      go_simp
                      refine (HCP.out _).mono ?_
                      rintro e w4 ⟨rfl, hb4⟩
                      have hbw4 := below_trans hbw3 hb4
                      go_wp2_with fail
                      refine hK.out _ _ (HYS.out _ hbw4) (fun hHeld47 => ?_)
                      clear hK K
                      refine tk 48 ?_; refine tk 49 ?_; refine tk 50 ?_
                      refine td ?_
                      have dz := HCB.out _ (below_trans hBw1 hbw4)
                      go_wp2
                      go_roundw
                      case rel => exact ⟨(q + 1) + 1, left - xc, I + 1, by have := HI.out; omega, by go_num, by go_num, by have := HI.out; omega, by omega, by omega, Lib.hid HD6.out, below_trans hbw1 hbw4⟩
                      case measure => have := HI.out; simp [intOf]; omega
                    · have q6 : decide (0 ≤ CP) = true := decide_eq_true (by omega)
                      have EE : Hid (R = false) := Lib.hid (HD5.out.trans (by rw [decide_eq_false hcp]; rfl))
                      clear HD5 hcp
                      go_wp2_with fail
                      refine tr (S := (fun w' => w'.cell? ⟨wr.heap.size, 0, none⟩ = some (.int .i64 xk) ∧ w'.cell? ⟨wr.heap.size, 1, none⟩ = some (.int .i64 xn) ∧ w'.cell? ⟨wr.heap.size, 2, none⟩ = some (.string xs) ∧ w'.cell? ⟨w.heap.size, 0, none⟩ = some (.int .i64 p.kind) ∧ w'.cell? ⟨w.heap.size, 1, none⟩ = some (.int .i64 p.mode) ∧ w'.cell? ⟨w.heap.size, 2, none⟩ = some (.int .i64 p.low) ∧ w'.cell? ⟨w.heap.size, 3, none⟩ = some (.int .i64 p.high) ∧ w'.cell? ⟨w.heap.size, 4, none⟩ = some (.int .i64 p.size) ∧ w'.cell? ⟨w.heap.size, 5, none⟩ = some (.int .i64 p.limit) ∧ w'.cell? ⟨w.heap.size, 6, none⟩ = some (.slice A0 p.left.length c0) ∧ w'.cell? ⟨w.heap.size, 7, none⟩ = some (.slice A1 p.right.length c1) ∧ w'.cell? ⟨w.heap.size, 8, none⟩ = some (.slice A2 p.lkeys.length c2) ∧ w'.cell? ⟨w.heap.size, 9, none⟩ = some (.slice A3 p.rkeys.length c3) ∧ w'.cell? ⟨w.heap.size, 10, none⟩ = some (.bool p.grouped) ∧ w'.cell? ⟨w.heap.size, 11, none⟩ = some (.slice A4 p.group.length c4) ∧ w'.cell? ⟨w.heap.size, 12, none⟩ = some (.slice A5 p.aggs.length c5) ∧ w'.cell? ⟨w.heap.size + 1, 1, none⟩ = some (.int .i64 (m : Int)) ∧ w'.cell? ⟨bb, ob + (q + 1) * 4 + 3, none⟩ = some (.int .i64 xc) ∧ w'.cell? ⟨bb, ob + q * 4, none⟩ = some (.int .i64 yk) ∧ w'.cell? ⟨bb, ob + q * 4 + 1, none⟩ = some (.int .i64 yn) ∧ w'.cell? ⟨bb, ob + q * 4 + 2, none⟩ = some (.string ys))) HH1.out (fun hHeld => ?_)
                      refine tk 0 ?_
                      refine tc 1 ?_
                      intro K hK
                      go_simp
                      refine (HCK.out _).mono ?_
                      rintro e w2 ⟨rfl, hb2⟩
                      have hbw2 := below_trans (Below.refl _ (wr.alloc (.cells #[.int .i64 xk, .int .i64 xn, .string xs] 112))).drew hb2
                      go_wp2_with fail
                      refine hK.out _ _ (HYS.out _ hbw2) (fun hHeld1 => ?_)
                      clear hK K
                      refine tk 2 ?_; refine tk 3 ?_; refine tk 4 ?_; refine tk 5 ?_; refine tk 6 ?_; refine tk 7 ?_; refine tk 8 ?_; refine tk 9 ?_; refine tk 10 ?_; refine tk 12 ?_; refine tk 13 ?_
                      refine tc 11 ?_
                      intro K hK
                      go_simp
                      refine Calls.mono (by with_reducible exact HTY.out _ (below_trans hBw1 hbw2)) ?_
                      rintro e w3 ⟨vt, rfl, hst, -, hb3⟩
                      obtain ⟨At, ct, rfl, -⟩ := id hst
                      obtain ⟨bt, ot, rfl, -, hct⟩ := int_at hst rfl hm
                      rw [HTT.out] at hct
                      have d9 := hct _ (Below.refl _ _)
                      have hbw3 := below_trans hbw2 hb3
                      clear hst hct
                      go_wp2_with fail
                      refine hK.out _ _ (HYS.out _ hbw3) (fun hHeld11 => ?_)
                      clear hK K
                      refine tk 14 ?_
                      refine tc 15 ?_
                      intro K hK
                      go_simp
                      clear d9
                      refine hK.out _ _ (HYS.out _ hbw3) (fun hHeld15 => ?_)
                      clear hK K
                      refine tk 16 ?_; refine tk 17 ?_; refine tk 18 ?_; refine tk 19 ?_; refine tk 20 ?_; refine tk 21 ?_; refine tk 22 ?_; refine tk 23 ?_; refine tk 24 ?_; refine tk 25 ?_; refine tk 26 ?_; refine tk 27 ?_
                      refine tk 28 ?_; refine tk 29 ?_; refine tk 30 ?_; refine tk 31 ?_; refine tk 32 ?_; refine tk 33 ?_; refine tk 34 ?_; refine tk 35 ?_; refine tk 36 ?_; refine tk 37 ?_; refine tk 38 ?_; refine tk 39 ?_
                      refine tk 40 ?_; refine tk 41 ?_; refine tk 42 ?_; refine tk 43 ?_; refine tk 44 ?_; refine tk 45 ?_; refine tk 46 ?_
                      refine tc 47 ?_
                      intro K hK
                      go_simp
                      refine (HCP.out _).mono ?_
                      rintro e w4 ⟨rfl, hb4⟩
                      have hbw4 := below_trans hbw3 hb4
                      go_wp2_with fail
                      refine hK.out _ _ (HYS.out _ hbw4) (fun hHeld47 => ?_)
                      clear hK K
                      refine tk 48 ?_; refine tk 49 ?_; refine tk 50 ?_
                      refine td ?_
                      go_wp2
                      go_ret
                      exact ⟨by rw [EE.out]; rfl, below_trans hBw1 hbw4⟩
            · have qt := bneT hkt
              have EE : Hid (R = false) := Lib.hid (HD1b.out.trans (by rw [beqF hkt]; rfl))
              clear HD1b hkt
              go_wp2_with fail
              refine tr (S := (fun w' => w'.cell? ⟨wr.heap.size, 0, none⟩ = some (.int .i64 xk) ∧ w'.cell? ⟨wr.heap.size, 1, none⟩ = some (.int .i64 xn) ∧ w'.cell? ⟨wr.heap.size, 2, none⟩ = some (.string xs) ∧ w'.cell? ⟨w.heap.size, 0, none⟩ = some (.int .i64 p.kind) ∧ w'.cell? ⟨w.heap.size, 1, none⟩ = some (.int .i64 p.mode) ∧ w'.cell? ⟨w.heap.size, 2, none⟩ = some (.int .i64 p.low) ∧ w'.cell? ⟨w.heap.size, 3, none⟩ = some (.int .i64 p.high) ∧ w'.cell? ⟨w.heap.size, 4, none⟩ = some (.int .i64 p.size) ∧ w'.cell? ⟨w.heap.size, 5, none⟩ = some (.int .i64 p.limit) ∧ w'.cell? ⟨w.heap.size, 6, none⟩ = some (.slice A0 p.left.length c0) ∧ w'.cell? ⟨w.heap.size, 7, none⟩ = some (.slice A1 p.right.length c1) ∧ w'.cell? ⟨w.heap.size, 8, none⟩ = some (.slice A2 p.lkeys.length c2) ∧ w'.cell? ⟨w.heap.size, 9, none⟩ = some (.slice A3 p.rkeys.length c3) ∧ w'.cell? ⟨w.heap.size, 10, none⟩ = some (.bool p.grouped) ∧ w'.cell? ⟨w.heap.size, 11, none⟩ = some (.slice A4 p.group.length c4) ∧ w'.cell? ⟨w.heap.size, 12, none⟩ = some (.slice A5 p.aggs.length c5) ∧ w'.cell? ⟨w.heap.size + 1, 1, none⟩ = some (.int .i64 (m : Int)) ∧ w'.cell? ⟨bb, ob + k * 4 + 3, none⟩ = some (.int .i64 xc))) HH0.out (fun hHeld => ?_)
              refine tk 0 ?_
              refine tc 1 ?_
              intro K hK
              go_simp
              refine (HCK.out _).mono ?_
              rintro e w2 ⟨rfl, hb2⟩
              have hbw2 := below_trans (Below.refl _ (wr.alloc (.cells #[.int .i64 xk, .int .i64 xn, .string xs] 112))).drew hb2
              go_wp2_with fail
              refine hK.out _ _ (HSS.out _ hbw2) (fun hHeld1 => ?_)
              clear hK K
              refine tk 2 ?_; refine tk 3 ?_; refine tk 4 ?_; refine tk 5 ?_; refine tk 6 ?_; refine tk 7 ?_; refine tk 8 ?_; refine tk 9 ?_; refine tk 10 ?_; refine tk 12 ?_; refine tk 13 ?_
              refine tc 11 ?_
              intro K hK
              go_simp
              refine Calls.mono (by with_reducible exact HTY.out _ (below_trans hBw1 hbw2)) ?_
              rintro e w3 ⟨vt, rfl, hst, -, hb3⟩
              obtain ⟨At, ct, rfl, -⟩ := id hst
              obtain ⟨bt, ot, rfl, -, hct⟩ := int_at hst rfl hm
              rw [HTT.out] at hct
              have d9 := hct _ (Below.refl _ _)
              have hbw3 := below_trans hbw2 hb3
              clear hst hct
              go_wp2_with fail
              refine hK.out _ _ (HSS.out _ hbw3) (fun hHeld11 => ?_)
              clear hK K
              refine tk 14 ?_
              refine tc 15 ?_
              intro K hK
              go_simp
              clear d9
              refine hK.out _ _ (HSS.out _ hbw3) (fun hHeld15 => ?_)
              clear hK K
              refine tk 16 ?_; refine tk 17 ?_; refine tk 18 ?_; refine tk 19 ?_; refine tn 20 ?_; refine tn 21 ?_; refine tn 22 ?_; refine tn 23 ?_; refine tn 24 ?_; refine tn 25 ?_; refine tk 26 ?_; refine tk 27 ?_
              refine tn 28 ?_; refine tn 29 ?_; refine tn 30 ?_; refine tn 31 ?_; refine tn 32 ?_; refine tn 33 ?_; refine tn 34 ?_; refine tk 35 ?_; refine tk 36 ?_; refine tn 37 ?_; refine tn 38 ?_; refine tn 39 ?_
              refine tn 40 ?_; refine tn 41 ?_; refine tn 42 ?_; refine tn 43 ?_; refine tn 44 ?_; refine tn 45 ?_; refine tn 46 ?_; refine tn 47 ?_; refine tn 48 ?_; refine tn 49 ?_; refine tk 50 ?_
              refine td ?_
              go_wp2
              go_ret
              exact ⟨by rw [EE.out]; rfl, below_trans hBw1 hbw3⟩
        · have q3 := bneT hcv
          have EE : Hid (R = false) := Lib.hid (HD.out.trans (by rw [beqF hcv]; rfl))
          clear hcv HD
          go_wp2_with fail
          refine tr (S := (fun w' => w'.cell? ⟨wr.heap.size, 0, none⟩ = some (.int .i64 xk) ∧ w'.cell? ⟨wr.heap.size, 1, none⟩ = some (.int .i64 xn) ∧ w'.cell? ⟨wr.heap.size, 2, none⟩ = some (.string xs) ∧ w'.cell? ⟨w.heap.size, 0, none⟩ = some (.int .i64 p.kind) ∧ w'.cell? ⟨w.heap.size, 1, none⟩ = some (.int .i64 p.mode) ∧ w'.cell? ⟨w.heap.size, 2, none⟩ = some (.int .i64 p.low) ∧ w'.cell? ⟨w.heap.size, 3, none⟩ = some (.int .i64 p.high) ∧ w'.cell? ⟨w.heap.size, 4, none⟩ = some (.int .i64 p.size) ∧ w'.cell? ⟨w.heap.size, 5, none⟩ = some (.int .i64 p.limit) ∧ w'.cell? ⟨w.heap.size, 6, none⟩ = some (.slice A0 p.left.length c0) ∧ w'.cell? ⟨w.heap.size, 7, none⟩ = some (.slice A1 p.right.length c1) ∧ w'.cell? ⟨w.heap.size, 8, none⟩ = some (.slice A2 p.lkeys.length c2) ∧ w'.cell? ⟨w.heap.size, 9, none⟩ = some (.slice A3 p.rkeys.length c3) ∧ w'.cell? ⟨w.heap.size, 10, none⟩ = some (.bool p.grouped) ∧ w'.cell? ⟨w.heap.size, 11, none⟩ = some (.slice A4 p.group.length c4) ∧ w'.cell? ⟨w.heap.size, 12, none⟩ = some (.slice A5 p.aggs.length c5) ∧ w'.cell? ⟨w.heap.size + 1, 1, none⟩ = some (.int .i64 (m : Int)) ∧ w'.cell? ⟨bb, ob + k * 4 + 3, none⟩ = some (.int .i64 xc))) HH0.out (fun hHeld => ?_)
          refine tk 0 ?_
          refine tc 1 ?_
          intro K hK
          go_simp
          refine (HCK.out _).mono ?_
          rintro e w2 ⟨rfl, hb2⟩
          have hbw2 := below_trans (Below.refl _ (wr.alloc (.cells #[.int .i64 xk, .int .i64 xn, .string xs] 112))).drew hb2
          go_wp2_with fail
          refine hK.out _ _ (HSS.out _ hbw2) (fun hHeld1 => ?_)
          clear hK K
          refine tk 2 ?_; refine tk 3 ?_; refine tn 4 ?_; refine tn 5 ?_; refine tn 6 ?_; refine tn 7 ?_; refine tn 8 ?_; refine tn 9 ?_; refine tn 10 ?_; refine tn 11 ?_; refine tn 12 ?_; refine tn 13 ?_
          refine tn 14 ?_; refine tn 15 ?_; refine tn 16 ?_; refine tn 17 ?_; refine tk 18 ?_; refine tk 19 ?_; refine tn 20 ?_; refine tn 21 ?_; refine tn 22 ?_; refine tn 23 ?_; refine tn 24 ?_; refine tn 25 ?_
          refine tk 26 ?_; refine tk 27 ?_; refine tn 28 ?_; refine tn 29 ?_; refine tn 30 ?_; refine tn 31 ?_; refine tn 32 ?_; refine tn 33 ?_; refine tn 34 ?_; refine tk 35 ?_; refine tk 36 ?_; refine tn 37 ?_
          refine tn 38 ?_; refine tn 39 ?_; refine tn 40 ?_; refine tn 41 ?_; refine tn 42 ?_; refine tn 43 ?_; refine tn 44 ?_; refine tn 45 ?_; refine tn 46 ?_; refine tn 47 ?_; refine tn 48 ?_; refine tn 49 ?_
          refine tk 50 ?_
          refine td ?_
          go_wp2
          go_ret
          exact ⟨by rw [EE.out]; rfl, below_trans hBw1 hbw2⟩
      · obtain rfl : k = bag.length := by omega
        have EE : Hid (R = (left == 0)) := Lib.hid (by rw [H.out, List.drop_length]; rfl)
        clear H
        go_wp2
        go_ret
        exact ⟨by rw [EE.out]; rfl, hBw⟩
end Go.Proofs.YtblhidmkalleoaaGreatDoor
