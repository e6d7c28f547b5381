/-
  Groups: (look).bag.
-/
import Derived.Test.YtblhidmkalleoaaGreatDoorGrpA10
import Derived.Test.YtblhidmkalleoaaGreatDoorGrpA7
import Derived.Test.YtblhidmkalleoaaGreatDoorGrpA2
set_option linter.unusedSimpArgs false
set_option linter.unusedVariables false
namespace Go.Proofs.YtblhidmkalleoaaGreatDoor
open Go.RowKit

/-- What groups are looked at with. -/
def lookCells (p : Pl) (all own : Value) : Array Value := #[.int .i64 p.kind, .int .i64 p.mode, .int .i64 p.low, .int .i64 p.high, .int .i64 p.size, .int .i64 p.limit, p.vl, p.vr, p.vk, p.vq, .bool p.grouped, p.vg, p.va, all, own]
def prevT (bag : List Tl) (k : Nat) : Option Val := if k = 0 then none else (bag[k - 1]?).map (·.v)
theorem prevT_succ {bag : List Tl} {k : Nat} {x : Tl} (h : bag[k]? = some x) : prevT bag (k + 1) = some x.v := by
  unfold prevT
  rw [if_neg (by omega), Nat.add_sub_cancel, h]
  rfl
theorem bagG_drop {t : Int} {bag : List Tl} {k : Nat} {x : Tl} {left : Int} {B : Bool} (hx : bag[k]? = some x) (h : B = bagG t (prevT bag k) left (bag.drop k)) :
    B = ((checkV x.v == 0) && (fitOne (t, x.v) && (decide (1 ≤ x.n) && (decide (x.n ≤ left) && (prevOk (prevT bag k) x.v && bagG t (prevT bag (k + 1)) (left - x.n) (bag.drop (k + 1))))))) := by
  obtain ⟨hk, rfl⟩ := List.getElem?_eq_some_iff.1 hx
  rw [prevT_succ hx, h, List.drop_eq_getElem_cons hk, bagG]
  rfl
theorem one_val1 (W : World) (o : Obj) (x : Val) : Sl ((W.alloc o).alloc (.cells #[.int .i64 x.k, .int .i64 x.n, .string x.s] 112)) (.slice (some ⟨W.heap.size + 1, 0, none⟩) 1 1) 1 (rowCells [x]) := by
  have := Sl.block (new_second W 112 #[.int .i64 x.k, .int .i64 x.n, .string x.s] o) 1 1 (Nat.le_refl _) (by decide)
  exact this
theorem one_val0 (W : World) (o : Obj) (x : Val) : Sl ((W.alloc (.cells #[.int .i64 x.k, .int .i64 x.n, .string x.s] 112)).alloc o) (.slice (some ⟨W.heap.size, 0, none⟩) 1 1) 1 (rowCells [x]) :=
  Sl.block (new_first W 112 #[.int .i64 x.k, .int .i64 x.n, .string x.s] o) 1 1 (Nat.le_refl _) (by decide)
theorem int_at0 (W : World) (o : Obj) (x : Int) : Sl ((W.alloc (.cells #[.int .i64 x] 3)).alloc o) (.slice (some ⟨W.heap.size, 0, none⟩) 1 1) 1 [.int .i64 x] := Sl.block (new_first W 3 #[.int .i64 x] o) 1 1 (Nat.le_refl _) (by decide)

set_option maxHeartbeats 16000000 in
set_option maxRecDepth 10000 in
theorem bag_any (p : Pl) (all own : Value) (a : Int × Int) (n : Int) (vb : Value) (bag : List Tl) (w : World) (hall : Sl w all (allT p).length (intCells (allT p))) (hbag : Sl w vb bag.length (tlCells bag)) (hf : ∀ x ∈ bag, Fine [x.v] ∧ (-9223372036854775808 ≤ x.n ∧ x.n ≤ 9223372036854775807))
    (hc : a.1 ≠ 1 → 0 ≤ a.2 ∧ a.2 < (allT p).length) (hn : 0 ≤ n ∧ n ≤ 1073741824) :
    Calls Tryz.prog 135 #[.agg (lookCells p all own), .agg #[.int .i64 a.1, .int .i64 a.2], .int .i64 n, vb] w fun e w' => e = .returned (.bool (bagB p a n bag)) ∧ Below w.heap.size w w' := by
  have HB := Lib.hid hbag
  have HALL := Lib.hid hall
  have HF := Lib.hid hf
  obtain ⟨R, hR⟩ : ∃ R : Bool, R = bagB p a n bag := ⟨_, rfl⟩
  rw [← hR]
  unfold bagB at hR
  obtain ⟨Ab, cb, rfl, n1, m1, -⟩ := hbag
  unfold maxLen at m1
  unfold lookCells
  have hB := below_trans (below_alloc w (.cells (lookCells p all own) 117)) (below_alloc _ (.cells #[.int .i64 a.1, .int .i64 a.2] 106))
  have K0 := new_first w 117 (lookCells p all own) (.cells #[.int .i64 a.1, .int .i64 a.2] 106)
  have K1 := new_second w 106 #[.int .i64 a.1, .int .i64 a.2] (.cells (lookCells p all own) 117)
  unfold lookCells at hB K0 K1
  obtain ⟨fn, col⟩ := a
  simp only at hc hR hB K0 K1 ⊢
  have y0 := K1.cell 0 _ rfl
  clear hall hf
  by_cases hfn : fn = 1
  · have q1 := beqT hfn
    have EE := Lib.hid (hR.trans (if_pos hfn))
    subst hfn
    clear hR hc q1
    have q2 : ((bag.length : Int) == 0) = bag.isEmpty := by cases bag <;> simp; omega
    go_enter Tryz.func135, Tryz.ntmps135
    go_wp2
    go_ret
    exact ⟨by rw [EE.out, ← q2]; rfl, hB⟩
  · have q1 := beqF hfn
    have hc := hc hfn
    obtain ⟨m, rfl⟩ : ∃ m : Nat, col = m := ⟨col.toNat, by omega⟩
    have hm : m < (allT p).length := by omega
    have EE := hR.trans (if_neg hfn)
    rw [show ((m : Int)).toNat = m by omega] at EE
    obtain ⟨Aa, ca, rfl, -⟩ := id HALL.out
    obtain ⟨ba, oa, rfl, -, hca⟩ := int_at HALL.out rfl hm
    generalize hT : (allT p).length = lt at hc hm hB K0 K1 ⊢
    generalize (allT p).getD m 0 = t at EE hca
    have HE := Lib.hid EE
    have HC := Lib.hid hca
    have x13 := K0.cell 13 _ rfl
    have x1 := K1.cell 1 _ rfl
    have m0' : (0 : Int) ≤ (m : Int) := by omega
    have m1' : (m : Int) < (lt : Int) := by omega
    clear EE hR hc hca HALL hT hfn
    go_enter Tryz.func135, Tryz.ntmps135
    go_wp2_with fail
    go_loopw [2, 9, 10, 19] (fun nv _ _ i wr => ∃ (k : Nat) (left I : Int), k ≤ bag.length ∧ nv = .int .i64 left ∧ i = .int .i64 I ∧ I = (k : Int) ∧ 0 ≤ left ∧ left ≤ 1073741824 ∧ Hid (R = bagG t (prevT bag k) left (bag.drop k)) ∧ Below ((w.alloc (.cells #[.int .i64 p.kind, .int .i64 p.mode, .int .i64 p.low, .int .i64 p.high, .int .i64 p.size, .int .i64 p.limit, p.vl, p.vr, p.vk, p.vq, .bool p.grouped, p.vg, p.va, .slice (some ⟨ba, oa, none⟩) lt ca, own] 117)).alloc (.cells #[.int .i64 fn, .int .i64 (m : Int)] 106)).heap.size ((w.alloc (.cells #[.int .i64 p.kind, .int .i64 p.mode, .int .i64 p.low, .int .i64 p.high, .int .i64 p.size, .int .i64 p.limit, p.vl, p.vr, p.vk, p.vq, .bool p.grouped, p.vg, p.va, .slice (some ⟨ba, oa, none⟩) lt ca, own] 117)).alloc (.cells #[.int .i64 fn, .int .i64 (m : Int)] 106)) wr)
      (fun _ _ _ i _ => bag.length - (intOf i).toNat)
    case atStart => exact ⟨0, n, 0, by omega, rfl, rfl, rfl, hn.1, hn.2, HE, Below.refl _ _⟩
    case round =>
      obtain ⟨k, left, I, hk, rfl, rfl, hI, hl0, hl1, H, hbw⟩ := hrel
      have hBw := below_trans hB hbw
      have HI := Lib.hid hI
      have I0 : (0 : Int) ≤ I := by omega
      by_cases hlt : I < (bag.length : Int)
      · have hlt' : k < bag.length := by omega
        have hx := List.getElem?_eq_getElem (l := bag) hlt'
        generalize bag[k] = x at hx
        obtain ⟨bb, ob, hAb, -, hcb⟩ := tl_at HB.out rfl hx
        have hIN : I.toNat = k := by omega
        obtain ⟨d0, d1, d2, d3⟩ := hcb _ hBw
        have HD := Lib.hid (bagG_drop hx H.out)
        have HXS := Lib.hid ((HF.out x (List.mem_of_getElem? hx)).1.small x.v (by simp))
        have hxn := (HF.out x (List.mem_of_getElem? hx)).2
        have HX := Lib.hid hx
        obtain ⟨⟨xk, xn, xs⟩, xc⟩ := x
        simp only at d0 d1 d2 d3 HD HXS HX hxn
        subst hAb
        have hBw1 := hBw.alloc hBw.size (.cells #[.int .i64 xk, .int .i64 xn, .string xs, .int .i64 xc] 135)
        have hbw1 := hbw.alloc hbw.size (.cells #[.int .i64 xk, .int .i64 xn, .string xs, .int .i64 xc] 135)
        have KX := Blk.new wr 135 #[.int .i64 xk, .int .i64 xn, .string xs, .int .i64 xc]
        have HSS := Lib.hid (fun w' (h : Below (wr.alloc (.cells #[.int .i64 xk, .int .i64 xn, .string xs, .int .i64 xc] 135)).heap.size (wr.alloc (.cells #[.int .i64 xk, .int .i64 xn, .string xs, .int .i64 xc] 135)) w') => And.intro ((KX.below h).cell 0 _ rfl) (And.intro ((KX.below h).cell 1 _ rfl) (And.intro ((KX.below h).cell 2 _ rfl) (And.intro ((KX.below h).cell 3 _ rfl) (And.intro (((K0.below hbw1).below h).cell 13 _ rfl) (And.intro (((K1.below hbw1).below h).cell 1 _ rfl) (HC.out w' (below_trans hBw1 h))))))))
        have HH0 := Lib.hid (HSS.out _ (Below.refl _ (wr.alloc (.cells #[.int .i64 xk, .int .i64 xn, .string xs, .int .i64 xc] 135))).drew)
        have HCK := Lib.hid (fun W => check_val ⟨xk, xn, xs⟩ W HXS.out)
        generalize checkV ⟨xk, xn, xs⟩ = CV at HD HCK
        have HFT : Hid (allB fitOne ([t].zip [(⟨xk, xn, xs⟩ : Val)]) = fitOne (t, ⟨xk, xn, xs⟩)) := Lib.hid (by simp [allB])
        generalize fitOne (t, ⟨xk, xn, xs⟩) = FT at HD HFT
        clear H hcb hx hI KX hlt'
        by_cases hcv : CV = 0
        · have q3 := bneF hcv
          have HD1 := Lib.hid (HD.out.trans (by rw [beqT hcv, Bool.true_and]))
          clear hcv HD
          cases FT with
          | false =>
            have EE : Hid (R = false) := Lib.hid HD1.out
            clear HD1
            go_wp2_with fail
            refine tr (S := (fun w' => w'.cell? ⟨wr.heap.size, 0, none⟩ = some (.int .i64 xk) ∧ w'.cell? ⟨wr.heap.size, 1, none⟩ = some (.int .i64 xn) ∧ w'.cell? ⟨wr.heap.size, 2, none⟩ = some (.string xs) ∧ w'.cell? ⟨wr.heap.size, 3, none⟩ = some (.int .i64 xc) ∧ w'.cell? ⟨w.heap.size, 13, none⟩ = some (.slice (some ⟨ba, oa, none⟩) lt ca) ∧ w'.cell? ⟨w.heap.size + 1, 1, none⟩ = some (.int .i64 (m : Int)) ∧ w'.cell? ⟨ba, oa + m, none⟩ = some (.int .i64 t))) HH0.out (fun hHeld => ?_)
            refine tk 0 ?_; refine tk 1 ?_
            refine tc 2 ?_
            intro K hK
            go_simp
            refine (HCK.out _).mono ?_
            rintro e w2 ⟨rfl, hb2⟩
            have hbw2 := below_trans (Below.refl _ (wr.alloc (.cells #[.int .i64 xk, .int .i64 xn, .string xs, .int .i64 xc] 135))).drew hb2
            have Z2 := HSS.out _ hbw2
            go_wp2_with fail
            refine hK.out _ _ Z2 (fun hHeld2 => ?_)
            clear hK K
            refine tk 3 ?_; refine tk 4 ?_; refine tk 5 ?_; refine tk 6 ?_; refine tk 8 ?_; refine tk 9 ?_; refine tk 10 ?_; refine tk 11 ?_; refine tk 12 ?_; refine tk 13 ?_
            refine tc2 7 14 ?_ ?_
            intro K hK
            go_simp
            refine hK.out _ _ (HSS.out _ (hbw2.alloc hbw2.size _)) (fun hHeld7 => ?_)
            clear hK K
            refine tc 14 ?_
            intro K hK
            go_simp
            refine hK.out _ _ (HSS.out _ ((hbw2.alloc hbw2.size _).alloc (by have := hbw2.size; simp at this ⊢; omega) _)) (fun hHeld14 => ?_)
            clear hK K
            rotate_left
            intro K hK
            go_simp
            refine hK.out _ _ (HSS.out _ (hbw2.alloc hbw2.size _)) (fun hHeld14 => ?_)
            clear hK K
            refine tc 7 ?_
            intro K hK
            go_simp
            refine hK.out _ _ (HSS.out _ ((hbw2.alloc hbw2.size _).alloc (by have := hbw2.size; simp at this ⊢; omega) _)) (fun hHeld7 => ?_)
            clear hK K
            all_goals
              refine tc 15 ?_
              intro K hK
              go_simp
              refine (typesFit_any _ _ [(⟨xk, xn, xs⟩ : Val)] [t] _ (by first | exact one_val0 _ _ ⟨xk, xn, xs⟩ | exact one_val1 _ _ ⟨xk, xn, xs⟩) (by first | exact int_at0 _ _ _ | exact one_int1 _ _ _) rfl).mono ?_
              rw [HFT.out]
              rintro e w3 ⟨rfl, hb3⟩
              have hbw3 := below_trans ((hbw2.alloc hbw2.size _).alloc (by have := hbw2.size; simp at this ⊢; omega) _) hb3
              have Z3 := HSS.out _ hbw3
              go_wp2_with fail
              refine hK.out _ _ Z3 (fun hHeld15 => ?_)
              clear hK K
              refine tk 16 ?_; refine tk 17 ?_; refine tk 18 ?_; refine tn 19 ?_; refine tn 20 ?_; refine tn 21 ?_; refine tk 22 ?_; refine tk 23 ?_; refine tn 24 ?_; refine tn 25 ?_
              refine tn 26 ?_; refine tn 27 ?_; refine tk 28 ?_; refine tk 29 ?_; refine tn 30 ?_; refine tn 31 ?_; refine tn 32 ?_; refine tn 33 ?_; refine tn 34 ?_; refine tn 35 ?_
              refine tn 36 ?_; refine tn 37 ?_; refine tn 38 ?_; refine tn 39 ?_; refine tn 40 ?_; refine tn 41 ?_; refine tn 42 ?_; refine tn 43 ?_; refine tk 44 ?_
              refine td ?_
              go_wp2
              go_ret
              exact ⟨by rw [EE.out]; rfl, below_trans hBw1 hbw3⟩
          | true =>
            have HD2 := Lib.hid (HD1.out.trans (by rw [Bool.true_and]))
            clear HD1
            by_cases hn1 : xc < 1
            · have EE : Hid (R = false) := Lib.hid (HD2.out.trans (by rw [decide_eq_false (by omega)]; rfl))
              have q4 : decide (xc < 1) = true := decide_eq_true hn1
              clear HD2 hn1
              go_wp2_with fail
              refine tr (S := (fun w' => w'.cell? ⟨wr.heap.size, 0, none⟩ = some (.int .i64 xk) ∧ w'.cell? ⟨wr.heap.size, 1, none⟩ = some (.int .i64 xn) ∧ w'.cell? ⟨wr.heap.size, 2, none⟩ = some (.string xs) ∧ w'.cell? ⟨wr.heap.size, 3, none⟩ = some (.int .i64 xc) ∧ w'.cell? ⟨w.heap.size, 13, none⟩ = some (.slice (some ⟨ba, oa, none⟩) lt ca) ∧ w'.cell? ⟨w.heap.size + 1, 1, none⟩ = some (.int .i64 (m : Int)) ∧ w'.cell? ⟨ba, oa + m, none⟩ = some (.int .i64 t))) HH0.out (fun hHeld => ?_)
              refine tk 0 ?_; refine tk 1 ?_
              refine tc 2 ?_
              intro K hK
              go_simp
              refine (HCK.out _).mono ?_
              rintro e w2 ⟨rfl, hb2⟩
              have hbw2 := below_trans (Below.refl _ (wr.alloc (.cells #[.int .i64 xk, .int .i64 xn, .string xs, .int .i64 xc] 135))).drew hb2
              have Z2 := HSS.out _ hbw2
              go_wp2_with fail
              refine hK.out _ _ Z2 (fun hHeld2 => ?_)
              clear hK K
              refine tk 3 ?_; refine tk 4 ?_; refine tk 5 ?_; refine tk 6 ?_; refine tk 8 ?_; refine tk 9 ?_; refine tk 10 ?_; refine tk 11 ?_; refine tk 12 ?_; refine tk 13 ?_
              refine tc2 7 14 ?_ ?_
              intro K hK
              go_simp
              refine hK.out _ _ (HSS.out _ (hbw2.alloc hbw2.size _)) (fun hHeld7 => ?_)
              clear hK K
              refine tc 14 ?_
              intro K hK
              go_simp
              refine hK.out _ _ (HSS.out _ ((hbw2.alloc hbw2.size _).alloc (by have := hbw2.size; simp at this ⊢; omega) _)) (fun hHeld14 => ?_)
              clear hK K
              rotate_left
              intro K hK
              go_simp
              refine hK.out _ _ (HSS.out _ (hbw2.alloc hbw2.size _)) (fun hHeld14 => ?_)
              clear hK K
              refine tc 7 ?_
              intro K hK
              go_simp
              refine hK.out _ _ (HSS.out _ ((hbw2.alloc hbw2.size _).alloc (by have := hbw2.size; simp at this ⊢; omega) _)) (fun hHeld7 => ?_)
              clear hK K
              all_goals
                refine tc 15 ?_
                intro K hK
                go_simp
                refine (typesFit_any _ _ [(⟨xk, xn, xs⟩ : Val)] [t] _ (by first | exact one_val0 _ _ ⟨xk, xn, xs⟩ | exact one_val1 _ _ ⟨xk, xn, xs⟩) (by first | exact int_at0 _ _ _ | exact one_int1 _ _ _) rfl).mono ?_
                rw [HFT.out]
                rintro e w3 ⟨rfl, hb3⟩
                have hbw3 := below_trans ((hbw2.alloc hbw2.size _).alloc (by have := hbw2.size; simp at this ⊢; omega) _) hb3
                have Z3 := HSS.out _ hbw3
                go_wp2_with fail
                refine hK.out _ _ Z3 (fun hHeld15 => ?_)
                clear hK K
                refine tk 16 ?_; refine tk 17 ?_; refine tk 18 ?_; refine tk 19 ?_; refine tk 20 ?_; refine tk 21 ?_; refine tk 22 ?_; refine tk 23 ?_; refine tn 24 ?_; refine tn 25 ?_
                refine tn 26 ?_; refine tn 27 ?_; refine tk 28 ?_; refine tk 29 ?_; refine tn 30 ?_; refine tn 31 ?_; refine tn 32 ?_; refine tn 33 ?_; refine tn 34 ?_; refine tn 35 ?_
                refine tn 36 ?_; refine tn 37 ?_; refine tn 38 ?_; refine tn 39 ?_; refine tn 40 ?_; refine tn 41 ?_; refine tn 42 ?_; refine tn 43 ?_; refine tk 44 ?_
                refine td ?_
                go_wp2
                go_ret
                exact ⟨by rw [EE.out]; rfl, below_trans hBw1 hbw3⟩
            · have q4 : decide (xc < 1) = false := decide_eq_false hn1
              have HD3 := Lib.hid (HD2.out.trans (by rw [decide_eq_true (show 1 ≤ xc by omega), Bool.true_and]))
              have hn2 : 1 ≤ xc := by omega
              clear HD2 hn1
              by_cases hn3 : left < xc
              · have EE : Hid (R = false) := Lib.hid (HD3.out.trans (by rw [decide_eq_false (by omega)]; rfl))
                have q5 : decide (left < xc) = true := decide_eq_true hn3
                clear HD3 hn2 hn3
                go_wp2_with fail
                refine tr (S := (fun w' => w'.cell? ⟨wr.heap.size, 0, none⟩ = some (.int .i64 xk) ∧ w'.cell? ⟨wr.heap.size, 1, none⟩ = some (.int .i64 xn) ∧ w'.cell? ⟨wr.heap.size, 2, none⟩ = some (.string xs) ∧ w'.cell? ⟨wr.heap.size, 3, none⟩ = some (.int .i64 xc) ∧ w'.cell? ⟨w.heap.size, 13, none⟩ = some (.slice (some ⟨ba, oa, none⟩) lt ca) ∧ w'.cell? ⟨w.heap.size + 1, 1, none⟩ = some (.int .i64 (m : Int)) ∧ w'.cell? ⟨ba, oa + m, none⟩ = some (.int .i64 t))) HH0.out (fun hHeld => ?_)
                refine tk 0 ?_; refine tk 1 ?_
                refine tc 2 ?_
                intro K hK
                go_simp
                refine (HCK.out _).mono ?_
                rintro e w2 ⟨rfl, hb2⟩
                have hbw2 := below_trans (Below.refl _ (wr.alloc (.cells #[.int .i64 xk, .int .i64 xn, .string xs, .int .i64 xc] 135))).drew hb2
                have Z2 := HSS.out _ hbw2
                go_wp2_with fail
                refine hK.out _ _ Z2 (fun hHeld2 => ?_)
                clear hK K
                refine tk 3 ?_; refine tk 4 ?_; refine tk 5 ?_; refine tk 6 ?_; refine tk 8 ?_; refine tk 9 ?_; refine tk 10 ?_; refine tk 11 ?_; refine tk 12 ?_; refine tk 13 ?_
                refine tc2 7 14 ?_ ?_
                intro K hK
                go_simp
                refine hK.out _ _ (HSS.out _ (hbw2.alloc hbw2.size _)) (fun hHeld7 => ?_)
                clear hK K
                refine tc 14 ?_
                intro K hK
                go_simp
                refine hK.out _ _ (HSS.out _ ((hbw2.alloc hbw2.size _).alloc (by have := hbw2.size; simp at this ⊢; omega) _)) (fun hHeld14 => ?_)
                clear hK K
                rotate_left
                intro K hK
                go_simp
                refine hK.out _ _ (HSS.out _ (hbw2.alloc hbw2.size _)) (fun hHeld14 => ?_)
                clear hK K
                refine tc 7 ?_
                intro K hK
                go_simp
                refine hK.out _ _ (HSS.out _ ((hbw2.alloc hbw2.size _).alloc (by have := hbw2.size; simp at this ⊢; omega) _)) (fun hHeld7 => ?_)
                clear hK K
                all_goals
                  refine tc 15 ?_
                  intro K hK
                  go_simp
                  refine (typesFit_any _ _ [(⟨xk, xn, xs⟩ : Val)] [t] _ (by first | exact one_val0 _ _ ⟨xk, xn, xs⟩ | exact one_val1 _ _ ⟨xk, xn, xs⟩) (by first | exact int_at0 _ _ _ | exact one_int1 _ _ _) rfl).mono ?_
                  rw [HFT.out]
                  rintro e w3 ⟨rfl, hb3⟩
                  have hbw3 := below_trans ((hbw2.alloc hbw2.size _).alloc (by have := hbw2.size; simp at this ⊢; omega) _) hb3
                  have Z3 := HSS.out _ hbw3
                  go_wp2_with fail
                  refine hK.out _ _ Z3 (fun hHeld15 => ?_)
                  clear hK K
                  refine tk 16 ?_; refine tk 17 ?_; refine tk 18 ?_; refine tk 19 ?_; refine tk 20 ?_; refine tk 21 ?_; refine tk 22 ?_; refine tk 23 ?_; refine tk 24 ?_; refine tk 25 ?_
                  refine tk 26 ?_; refine tk 27 ?_; refine tk 28 ?_; refine tk 29 ?_; refine tn 30 ?_; refine tn 31 ?_; refine tn 32 ?_; refine tn 33 ?_; refine tn 34 ?_; refine tn 35 ?_
                  refine tn 36 ?_; refine tn 37 ?_; refine tn 38 ?_; refine tn 39 ?_; refine tn 40 ?_; refine tn 41 ?_; refine tn 42 ?_; refine tn 43 ?_; refine tk 44 ?_
                  refine td ?_
                  go_wp2
                  go_ret
                  exact ⟨by rw [EE.out]; rfl, below_trans hBw1 hbw3⟩
              · have q5 : decide (left < xc) = false := decide_eq_false hn3
                have HD4 := Lib.hid (HD3.out.trans (by rw [decide_eq_true (show xc ≤ left by omega), Bool.true_and]))
                have hn4 : xc ≤ left := by omega
                clear HD3 hn3
                rcases Nat.eq_zero_or_pos k with hk0 | hk0
                · have hI0 : decide ((0 : Int) < I) = false := decide_eq_false (by have := HI.out; omega)
                  have HD5 := Lib.hid (HD4.out.trans (by rw [show prevT bag k = none from if_pos hk0, prevOk, Bool.true_and]))
                  clear HD4 hk0
                  go_wp2_with fail
                  refine tr (S := (fun w' => w'.cell? ⟨wr.heap.size, 0, none⟩ = some (.int .i64 xk) ∧ w'.cell? ⟨wr.heap.size, 1, none⟩ = some (.int .i64 xn) ∧ w'.cell? ⟨wr.heap.size, 2, none⟩ = some (.string xs) ∧ w'.cell? ⟨wr.heap.size, 3, none⟩ = some (.int .i64 xc) ∧ w'.cell? ⟨w.heap.size, 13, none⟩ = some (.slice (some ⟨ba, oa, none⟩) lt ca) ∧ w'.cell? ⟨w.heap.size + 1, 1, none⟩ = some (.int .i64 (m : Int)) ∧ w'.cell? ⟨ba, oa + m, none⟩ = some (.int .i64 t))) HH0.out (fun hHeld => ?_)
                  refine tk 0 ?_; refine tk 1 ?_
                  refine tc 2 ?_
                  intro K hK
                  go_simp
                  refine (HCK.out _).mono ?_
                  rintro e w2 ⟨rfl, hb2⟩
                  have hbw2 := below_trans (Below.refl _ (wr.alloc (.cells #[.int .i64 xk, .int .i64 xn, .string xs, .int .i64 xc] 135))).drew hb2
                  have Z2 := HSS.out _ hbw2
                  go_wp2_with fail
                  refine hK.out _ _ Z2 (fun hHeld2 => ?_)
                  clear hK K
                  refine tk 3 ?_; refine tk 4 ?_; refine tk 5 ?_; refine tk 6 ?_; refine tk 8 ?_; refine tk 9 ?_; refine tk 10 ?_; refine tk 11 ?_; refine tk 12 ?_; refine tk 13 ?_
                  refine tc2 7 14 ?_ ?_
                  intro K hK
                  go_simp
                  refine hK.out _ _ (HSS.out _ (hbw2.alloc hbw2.size _)) (fun hHeld7 => ?_)
                  clear hK K
                  refine tc 14 ?_
                  intro K hK
                  go_simp
                  refine hK.out _ _ (HSS.out _ ((hbw2.alloc hbw2.size _).alloc (by have := hbw2.size; simp at this ⊢; omega) _)) (fun hHeld14 => ?_)
                  clear hK K
                  rotate_left
                  intro K hK
                  go_simp
                  refine hK.out _ _ (HSS.out _ (hbw2.alloc hbw2.size _)) (fun hHeld14 => ?_)
                  clear hK K
                  refine tc 7 ?_
                  intro K hK
                  go_simp
                  refine hK.out _ _ (HSS.out _ ((hbw2.alloc hbw2.size _).alloc (by have := hbw2.size; simp at this ⊢; omega) _)) (fun hHeld7 => ?_)
                  clear hK K
                  all_goals
                    refine tc 15 ?_
                    intro K hK
                    go_simp
                    refine (typesFit_any _ _ [(⟨xk, xn, xs⟩ : Val)] [t] _ (by first | exact one_val0 _ _ ⟨xk, xn, xs⟩ | exact one_val1 _ _ ⟨xk, xn, xs⟩) (by first | exact int_at0 _ _ _ | exact one_int1 _ _ _) rfl).mono ?_
                    rw [HFT.out]
                    rintro e w3 ⟨rfl, hb3⟩
                    have hbw3 := below_trans ((hbw2.alloc hbw2.size _).alloc (by have := hbw2.size; simp at this ⊢; omega) _) hb3
                    have Z3 := HSS.out _ hbw3
                    go_wp2_with fail
                    refine hK.out _ _ Z3 (fun hHeld15 => ?_)
                    clear hK K
                    refine tk 16 ?_; refine tk 17 ?_; refine tk 18 ?_; refine tk 19 ?_; refine tk 20 ?_; refine tk 21 ?_; refine tk 22 ?_; refine tk 23 ?_; refine tk 24 ?_; refine tk 25 ?_
                    refine tk 26 ?_; refine tk 27 ?_; refine tk 28 ?_; refine tk 29 ?_; refine tk 30 ?_; refine tk 31 ?_; refine tk 32 ?_; refine tn 33 ?_; refine tn 34 ?_; refine tn 35 ?_
                    refine tn 36 ?_; refine tn 37 ?_; refine tn 38 ?_; refine tn 39 ?_; refine tn 40 ?_; refine tn 41 ?_; refine tn 42 ?_; refine tk 43 ?_; refine tk 44 ?_
                    refine td ?_
                    go_wp2
                    go_roundw
                    case rel => exact ⟨k + 1, left - xc, I + 1, by have := HI.out; omega, by go_num, by go_num, by have := HI.out; omega, by omega, by omega, Lib.hid HD5.out, below_trans hbw1 hbw3⟩
                    case measure => have := HI.out; simp [intOf]; omega
                · obtain ⟨q, rfl⟩ : ∃ q, k = q + 1 := ⟨k - 1, by omega⟩
                  have hI0 : decide ((0 : Int) < I) = true := decide_eq_true (by have := HI.out; omega)
                  have hI1 : (0 : Int) ≤ I - 1 := by have := HI.out; omega
                  have hI1' : (1 : Int) ≤ I := by have := HI.out; omega
                  have hI2 : I - 1 < (bag.length : Int) := by omega
                  have hI3 : (I - 1).toNat = q := by have := HI.out; omega
                  have hI4 : IntKind.i64.wrap (I - 1) = I - 1 := by rw [IntKind.wrap_i64]; omega
                  have hyl : q < bag.length := by omega
                  have hy := List.getElem?_eq_getElem (l := bag) hyl
                  generalize bag[q] = y at hy
                  obtain ⟨b2, o2, hA2, -, hcy⟩ := tl_at HB.out rfl hy
                  injection hA2 with hA2
                  injection hA2 with e1 e2
                  subst e1 e2
                  have hp : prevT bag (q + 1) = some y.v := prevT_succ hy
                  obtain ⟨⟨yk, yn, ys⟩, yc⟩ := y
                  simp only at hcy hp
                  have HD5 : Hid (R = (decide (cmpV ⟨yk, yn, ys⟩ ⟨xk, xn, xs⟩ < 0) && bagG t (prevT bag (q + 1 + 1)) (left - xc) (bag.drop (q + 1 + 1)))) := Lib.hid (HD4.out.trans (by rw [hp, prevOk]))
                  have HYS := Lib.hid (fun w' (h : Below (wr.alloc (.cells #[.int .i64 xk, .int .i64 xn, .string xs, .int .i64 xc] 135)).heap.size (wr.alloc (.cells #[.int .i64 xk, .int .i64 xn, .string xs, .int .i64 xc] 135)) w') => let z := HSS.out w' h; let u := hcy w' (below_trans hBw1 h); And.intro z.1 (And.intro z.2.1 (And.intro z.2.2.1 (And.intro z.2.2.2.1 (And.intro z.2.2.2.2.1 (And.intro z.2.2.2.2.2.1 (And.intro z.2.2.2.2.2.2 (And.intro u.1 (And.intro u.2.1 u.2.2.1)))))))))
                  have HH1 := Lib.hid (HYS.out _ (Below.refl _ (wr.alloc (.cells #[.int .i64 xk, .int .i64 xn, .string xs, .int .i64 xc] 135))).drew)
                  have HCP := Lib.hid (fun W => compare_val ⟨yk, yn, ys⟩ ⟨xk, xn, xs⟩ W)
                  generalize cmpV ⟨yk, yn, ys⟩ ⟨xk, xn, xs⟩ = CP at HD5 HCP
                  clear HD4 hk0 hyl hy hcy hp HSS HH0
                  by_cases hcp : CP < 0
                  · have q6 : decide (0 ≤ CP) = false := decide_eq_false (by omega)
                    have HD6 := Lib.hid (HD5.out.trans (by rw [decide_eq_true hcp, Bool.true_and]))
                    clear HD5 hcp
                    go_wp2_with fail
                    refine tr (S := (fun w' => w'.cell? ⟨wr.heap.size, 0, none⟩ = some (.int .i64 xk) ∧ w'.cell? ⟨wr.heap.size, 1, none⟩ = some (.int .i64 xn) ∧ w'.cell? ⟨wr.heap.size, 2, none⟩ = some (.string xs) ∧ w'.cell? ⟨wr.heap.size, 3, none⟩ = some (.int .i64 xc) ∧ w'.cell? ⟨w.heap.size, 13, none⟩ = some (.slice (some ⟨ba, oa, none⟩) lt ca) ∧ w'.cell? ⟨w.heap.size + 1, 1, none⟩ = some (.int .i64 (m : Int)) ∧ w'.cell? ⟨ba, oa + m, none⟩ = some (.int .i64 t) ∧ w'.cell? ⟨bb, ob + q * 4, none⟩ = some (.int .i64 yk) ∧ w'.cell? ⟨bb, ob + q * 4 + 1, none⟩ = some (.int .i64 yn) ∧ w'.cell? ⟨bb, ob + q * 4 + 2, none⟩ = some (.string ys))) HH1.out (fun hHeld => ?_)
                    refine tk 0 ?_; refine tk 1 ?_
                    refine tc 2 ?_
                    intro K hK
                    go_simp
                    refine (HCK.out _).mono ?_
                    rintro e w2 ⟨rfl, hb2⟩
                    have hbw2 := below_trans (Below.refl _ (wr.alloc (.cells #[.int .i64 xk, .int .i64 xn, .string xs, .int .i64 xc] 135))).drew hb2
                    have Z2 := HYS.out _ hbw2
                    go_wp2_with fail
                    refine hK.out _ _ Z2 (fun hHeld2 => ?_)
                    clear hK K
                    refine tk 3 ?_; refine tk 4 ?_; refine tk 5 ?_; refine tk 6 ?_; refine tk 8 ?_; refine tk 9 ?_; refine tk 10 ?_; refine tk 11 ?_; refine tk 12 ?_; refine tk 13 ?_
                    refine tc2 7 14 ?_ ?_
                    intro K hK
                    go_simp
                    refine hK.out _ _ (HYS.out _ (hbw2.alloc hbw2.size _)) (fun hHeld7 => ?_)
                    clear hK K
                    refine tc 14 ?_
                    intro K hK
                    go_simp
                    refine hK.out _ _ (HYS.out _ ((hbw2.alloc hbw2.size _).alloc (by have := hbw2.size; simp at this ⊢; omega) _)) (fun hHeld14 => ?_)
                    clear hK K
                    rotate_left
                    intro K hK
                    go_simp
                    refine hK.out _ _ (HYS.out _ (hbw2.alloc hbw2.size _)) (fun hHeld14 => ?_)
                    clear hK K
                    refine tc 7 ?_
                    intro K hK
                    go_simp
                    refine hK.out _ _ (HYS.out _ ((hbw2.alloc hbw2.size _).alloc (by have := hbw2.size; simp at this ⊢; omega) _)) (fun hHeld7 => ?_)
                    clear hK K
                    all_goals
                      refine tc 15 ?_
                      intro K hK
                      go_simp
                      refine (typesFit_any _ _ [(⟨xk, xn, xs⟩ : Val)] [t] _ (by first | exact one_val0 _ _ ⟨xk, xn, xs⟩ | exact one_val1 _ _ ⟨xk, xn, xs⟩) (by first | exact int_at0 _ _ _ | exact one_int1 _ _ _) rfl).mono ?_
                      rw [HFT.out]
                      rintro e w3 ⟨rfl, hb3⟩
                      have hbw3 := below_trans ((hbw2.alloc hbw2.size _).alloc (by have := hbw2.size; simp at this ⊢; omega) _) hb3
                      have Z3 := HYS.out _ hbw3
                      go_wp2_with fail
                      refine hK.out _ _ Z3 (fun hHeld15 => ?_)
                      clear hK K
                      refine tk 16 ?_; refine tk 17 ?_; refine tk 18 ?_; refine tk 19 ?_; refine tk 20 ?_; refine tk 21 ?_; refine tk 22 ?_; refine tk 23 ?_; refine tk 24 ?_; refine tk 25 ?_
                      refine tk 26 ?_; refine tk 27 ?_; refine tk 28 ?_; refine tk 29 ?_; refine tk 30 ?_; refine tk 31 ?_; refine tk 32 ?_; refine tk 33 ?_; refine tk 34 ?_; refine tk 35 ?_
                      refine tk 36 ?_; refine tk 37 ?_; refine tk 38 ?_; refine tk 39 ?_; refine tk 40 ?_
                      refine tc 41 ?_
                      intro K hK
                      go_simp
                      refine (HCP.out _).mono ?_
                      rintro e w4 ⟨rfl, hb4⟩
                      have hbw4 := below_trans hbw3 hb4
                      have Z4 := HYS.out _ hbw4
                      go_wp2_with fail
                      refine hK.out _ _ Z4 (fun hHeld41 => ?_)
                      clear hK K
                      refine tk 42 ?_; refine tk 43 ?_; refine tk 44 ?_
                      refine td ?_
                      go_wp2
                      go_roundw
                      case rel => exact ⟨(q + 1) + 1, left - xc, I + 1, by have := HI.out; omega, by go_num, by go_num, by have := HI.out; omega, by omega, by omega, Lib.hid HD6.out, below_trans hbw1 hbw4⟩
                      case measure => have := HI.out; simp [intOf]; omega
                  · have q6 : decide (0 ≤ CP) = true := decide_eq_true (by omega)
                    have EE : Hid (R = false) := Lib.hid (HD5.out.trans (by rw [decide_eq_false hcp]; rfl))
                    clear HD5 hcp
                    go_wp2_with fail
                    refine tr (S := (fun w' => w'.cell? ⟨wr.heap.size, 0, none⟩ = some (.int .i64 xk) ∧ w'.cell? ⟨wr.heap.size, 1, none⟩ = some (.int .i64 xn) ∧ w'.cell? ⟨wr.heap.size, 2, none⟩ = some (.string xs) ∧ w'.cell? ⟨wr.heap.size, 3, none⟩ = some (.int .i64 xc) ∧ w'.cell? ⟨w.heap.size, 13, none⟩ = some (.slice (some ⟨ba, oa, none⟩) lt ca) ∧ w'.cell? ⟨w.heap.size + 1, 1, none⟩ = some (.int .i64 (m : Int)) ∧ w'.cell? ⟨ba, oa + m, none⟩ = some (.int .i64 t) ∧ w'.cell? ⟨bb, ob + q * 4, none⟩ = some (.int .i64 yk) ∧ w'.cell? ⟨bb, ob + q * 4 + 1, none⟩ = some (.int .i64 yn) ∧ w'.cell? ⟨bb, ob + q * 4 + 2, none⟩ = some (.string ys))) HH1.out (fun hHeld => ?_)
                    refine tk 0 ?_; refine tk 1 ?_
                    refine tc 2 ?_
                    intro K hK
                    go_simp
                    refine (HCK.out _).mono ?_
                    rintro e w2 ⟨rfl, hb2⟩
                    have hbw2 := below_trans (Below.refl _ (wr.alloc (.cells #[.int .i64 xk, .int .i64 xn, .string xs, .int .i64 xc] 135))).drew hb2
                    have Z2 := HYS.out _ hbw2
                    go_wp2_with fail
                    refine hK.out _ _ Z2 (fun hHeld2 => ?_)
                    clear hK K
                    refine tk 3 ?_; refine tk 4 ?_; refine tk 5 ?_; refine tk 6 ?_; refine tk 8 ?_; refine tk 9 ?_; refine tk 10 ?_; refine tk 11 ?_; refine tk 12 ?_; refine tk 13 ?_
                    refine tc2 7 14 ?_ ?_
                    intro K hK
                    go_simp
                    refine hK.out _ _ (HYS.out _ (hbw2.alloc hbw2.size _)) (fun hHeld7 => ?_)
                    clear hK K
                    refine tc 14 ?_
                    intro K hK
                    go_simp
                    refine hK.out _ _ (HYS.out _ ((hbw2.alloc hbw2.size _).alloc (by have := hbw2.size; simp at this ⊢; omega) _)) (fun hHeld14 => ?_)
                    clear hK K
                    rotate_left
                    intro K hK
                    go_simp
                    refine hK.out _ _ (HYS.out _ (hbw2.alloc hbw2.size _)) (fun hHeld14 => ?_)
                    clear hK K
                    refine tc 7 ?_
                    intro K hK
                    go_simp
                    refine hK.out _ _ (HYS.out _ ((hbw2.alloc hbw2.size _).alloc (by have := hbw2.size; simp at this ⊢; omega) _)) (fun hHeld7 => ?_)
                    clear hK K
                    all_goals
                      refine tc 15 ?_
                      intro K hK
                      go_simp
                      refine (typesFit_any _ _ [(⟨xk, xn, xs⟩ : Val)] [t] _ (by first | exact one_val0 _ _ ⟨xk, xn, xs⟩ | exact one_val1 _ _ ⟨xk, xn, xs⟩) (by first | exact int_at0 _ _ _ | exact one_int1 _ _ _) rfl).mono ?_
                      rw [HFT.out]
                      rintro e w3 ⟨rfl, hb3⟩
                      have hbw3 := below_trans ((hbw2.alloc hbw2.size _).alloc (by have := hbw2.size; simp at this ⊢; omega) _) hb3
                      have Z3 := HYS.out _ hbw3
                      go_wp2_with fail
                      refine hK.out _ _ Z3 (fun hHeld15 => ?_)
                      clear hK K
                      refine tk 16 ?_; refine tk 17 ?_; refine tk 18 ?_; refine tk 19 ?_; refine tk 20 ?_; refine tk 21 ?_; refine tk 22 ?_; refine tk 23 ?_; refine tk 24 ?_; refine tk 25 ?_
                      refine tk 26 ?_; refine tk 27 ?_; refine tk 28 ?_; refine tk 29 ?_; refine tk 30 ?_; refine tk 31 ?_; refine tk 32 ?_; refine tk 33 ?_; refine tk 34 ?_; refine tk 35 ?_
                      refine tk 36 ?_; refine tk 37 ?_; refine tk 38 ?_; refine tk 39 ?_; refine tk 40 ?_
                      refine tc 41 ?_
                      intro K hK
                      go_simp
                      refine (HCP.out _).mono ?_
                      rintro e w4 ⟨rfl, hb4⟩
                      have hbw4 := below_trans hbw3 hb4
                      have Z4 := HYS.out _ hbw4
                      go_wp2_with fail
                      refine hK.out _ _ Z4 (fun hHeld41 => ?_)
                      clear hK K
                      refine tk 42 ?_; refine tk 43 ?_; refine tk 44 ?_
                      refine td ?_
                      go_wp2
                      go_ret
                      exact ⟨by rw [EE.out]; rfl, below_trans hBw1 hbw4⟩
        · have q3 := bneT hcv
          have EE : Hid (R = false) := Lib.hid (HD.out.trans (by rw [beqF hcv]; rfl))
          clear hcv HD
          go_wp2_with fail
          refine tr (S := (fun w' => w'.cell? ⟨wr.heap.size, 0, none⟩ = some (.int .i64 xk) ∧ w'.cell? ⟨wr.heap.size, 1, none⟩ = some (.int .i64 xn) ∧ w'.cell? ⟨wr.heap.size, 2, none⟩ = some (.string xs) ∧ w'.cell? ⟨wr.heap.size, 3, none⟩ = some (.int .i64 xc) ∧ w'.cell? ⟨w.heap.size, 13, none⟩ = some (.slice (some ⟨ba, oa, none⟩) lt ca) ∧ w'.cell? ⟨w.heap.size + 1, 1, none⟩ = some (.int .i64 (m : Int)) ∧ w'.cell? ⟨ba, oa + m, none⟩ = some (.int .i64 t))) HH0.out (fun hHeld => ?_)
          refine tk 0 ?_; refine tk 1 ?_
          refine tc 2 ?_
          intro K hK
          go_simp
          refine (HCK.out _).mono ?_
          rintro e w2 ⟨rfl, hb2⟩
          have hbw2 := below_trans (Below.refl _ (wr.alloc (.cells #[.int .i64 xk, .int .i64 xn, .string xs, .int .i64 xc] 135))).drew hb2
          have Z2 := HSS.out _ hbw2
          go_wp2_with fail
          refine hK.out _ _ Z2 (fun hHeld2 => ?_)
          clear hK K
          refine tk 3 ?_; refine tk 4 ?_; refine tn 5 ?_; refine tn 6 ?_; refine tn 8 ?_; refine tn 9 ?_; refine tn 10 ?_; refine tn 11 ?_; refine tn 12 ?_; refine tn 13 ?_
          refine tn 7 ?_; refine tn 14 ?_; refine tn 15 ?_; refine tn 16 ?_; refine tk 17 ?_; refine tk 18 ?_; refine tn 19 ?_; refine tn 20 ?_; refine tn 21 ?_; refine tk 22 ?_
          refine tk 23 ?_; refine tn 24 ?_; refine tn 25 ?_; refine tn 26 ?_; refine tn 27 ?_; refine tk 28 ?_; refine tk 29 ?_; refine tn 30 ?_; refine tn 31 ?_; refine tn 32 ?_
          refine tn 33 ?_; refine tn 34 ?_; refine tn 35 ?_; refine tn 36 ?_; refine tn 37 ?_; refine tn 38 ?_; refine tn 39 ?_; refine tn 40 ?_; refine tn 41 ?_; refine tn 42 ?_
          refine tn 43 ?_; refine tk 44 ?_
          refine td ?_
          go_wp2
          go_ret
          exact ⟨by rw [EE.out]; rfl, below_trans hBw1 hbw2⟩
      · obtain rfl : k = bag.length := by omega
        have EE : Hid (R = (left == 0)) := Lib.hid (by rw [H.out, List.drop_length]; rfl)
        clear H
        go_wp2
        go_ret
        exact ⟨by rw [EE.out]; rfl, hBw⟩
end Go.Proofs.YtblhidmkalleoaaGreatDoor
