/-
  Plans: Check. Plans: Out, and the reference's OutOf. Plans: Row, and the reference's RowError. Plain law of groups: what is wrong with groups; their rows.
-/
import Derived.Test.YtblhidmkalleoaaGreatDoorGrpA8
import Derived.Laws.EntriesVeiled
import Derived.Test.YtblhidmkalleoaaGreatDoorGrpA2
import Derived.Test.YtblhidmkalleoaaGreatDoorGrpA3
set_option linter.unusedSimpArgs false
set_option linter.unusedVariables false
namespace Go.Proofs.YtblhidmkalleoaaGreatDoor
open Go.RowKit Go.Maps

def checkP (p : Pl) : Int := if kindsB p then if rangesB p then if countsB p then if typesB p then if formB p then 0 else 1 else 5 else 2 else 3 else 4
theorem counts_short {p : Pl} (h : countsB p = true) : p.short := by
  unfold countsB at h
  rw [Bool.and_eq_true] at h
  obtain ⟨h1, h2⟩ := h
  simp only [allB, lens, List.all_cons, List.all_nil, id, Bool.and_true, Bool.and_eq_true] at h1
  obtain ⟨a, b, c, d⟩ := h1
  have a := btw_of a
  have b := btw_of b
  have c := btw_of c
  have d := btw_of d
  have e : p.group.length ≤ 8 ∧ p.aggs.length ≤ 4 := by
    cases hg : p.grouped
    · rw [hg] at h2
      simp at h2
      omega
    · rw [hg] at h2
      simp only [if_true, Bool.and_eq_true, decide_eq_true_eq] at h2
      have := btw_of h2.1
      omega
  exact ⟨by omega, by omega, by omega, by omega, by omega, by omega, by omega, by omega, e.1, e.2⟩

set_option maxHeartbeats 4000000 in
set_option maxRecDepth 10000 in
theorem check_any (p : Pl) (w : World) (h : p.ok w) (hf : p.fit) :
    Calls Tryz.prog 66 #[.agg #[.int .i64 p.kind, .int .i64 p.mode, .int .i64 p.low, .int .i64 p.high, .int .i64 p.size, .int .i64 p.limit, p.vl, p.vr, p.vk, p.vq, .bool p.grouped, p.vg, p.va]] w fun e w' => e = .returned (.int .i64 (checkP p)) ∧ Below w.heap.size w w' := by
  have HO := Lib.hid h
  have HF := Lib.hid hf
  have K1 := Blk.new w 25 #[.int .i64 p.kind, .int .i64 p.mode, .int .i64 p.low, .int .i64 p.high, .int .i64 p.size, .int .i64 p.limit, p.vl, p.vr, p.vk, p.vq, .bool p.grouped, p.vg, p.va]
  have K1 := K1.alloc (.cells #[.func (.func 129) #[] #[], .int .i64 4, .func (.func 130) #[] #[], .int .i64 3, .func (.func 131) #[] #[], .int .i64 2, .func (.func 132) #[] #[], .int .i64 5, .func (.func 133) #[] #[], .int .i64 1] 193)
  have K2 := new_second w 193 #[.func (.func 129) #[] #[], .int .i64 4, .func (.func 130) #[] #[], .int .i64 3, .func (.func 131) #[] #[], .int .i64 2, .func (.func 132) #[] #[], .int .i64 5, .func (.func 133) #[] #[], .int .i64 1] (.cells #[.int .i64 p.kind, .int .i64 p.mode, .int .i64 p.low, .int .i64 p.high, .int .i64 p.size, .int .i64 p.limit, p.vl, p.vr, p.vk, p.vq, .bool p.grouped, p.vg, p.va] 25)
  have hB := below_trans (below_alloc w (.cells #[.int .i64 p.kind, .int .i64 p.mode, .int .i64 p.low, .int .i64 p.high, .int .i64 p.size, .int .i64 p.limit, p.vl, p.vr, p.vk, p.vq, .bool p.grouped, p.vg, p.va] 25)) (below_alloc _ (.cells #[.func (.func 129) #[] #[], .int .i64 4, .func (.func 130) #[] #[], .int .i64 3, .func (.func 131) #[] #[], .int .i64 2, .func (.func 132) #[] #[], .int .i64 5, .func (.func 133) #[] #[], .int .i64 1] 193))
  obtain ⟨bs, hbs⟩ : ∃ bs : List Bool, bs = [kindsB p, rangesB p, countsB p, typesB p, formB p] := ⟨_, rfl⟩
  have HBS := Lib.hid hbs
  have HC : Hid (checkP p = if kindsB p then if rangesB p then if countsB p then if typesB p then if formB p then 0 else 1 else 5 else 2 else 3 else 4) := Lib.hid rfl
  generalize checkP p = R at HC ⊢
  clear h hf hbs
  go_enter Tryz.func66, Tryz.ntmps66
  go_wp2_with fail
  go_loopw [4, 12] (fun _ i wr => ∃ k : Nat, k ≤ 5 ∧ i = .int .i64 k ∧ Hid (∀ b ∈ bs.take k, id b = true) ∧ Blk wr w.heap.size 25 #[.int .i64 p.kind, .int .i64 p.mode, .int .i64 p.low, .int .i64 p.high, .int .i64 p.size, .int .i64 p.limit, p.vl, p.vr, p.vk, p.vq, .bool p.grouped, p.vg, p.va] ∧ Blk wr (w.heap.size + 1) 193 #[.func (.func 129) #[] #[], .int .i64 4, .func (.func 130) #[] #[], .int .i64 3, .func (.func 131) #[] #[], .int .i64 2, .func (.func 132) #[] #[], .int .i64 5, .func (.func 133) #[] #[], .int .i64 1] ∧ Below w.heap.size w wr) (fun _ i _ => 5 - (intOf i).toNat)
  case atStart => exact ⟨0, by omega, rfl, by simp [Hid], K1, K2, hB⟩
  case round =>
    obtain ⟨k, hk, rfl, H, J1, J2, hbw⟩ := hrel
    have hk5 : k = 0 ∨ k = 1 ∨ k = 2 ∨ k = 3 ∨ k = 4 ∨ k = 5 := by omega
    rcases hk5 with rfl | rfl | rfl | rfl | rfl | rfl
    · have z0 := J2.cell 0 _ rfl
      have z1 := J2.cell 1 _ rfl
      have J1' := J1.alloc (.cells #[.func (.func 129) #[] #[], .int .i64 4] 193)
      have J2' := J2.alloc (.cells #[.func (.func 129) #[] #[], .int .i64 4] 193)
      have y0 := J1'.cell 0 _ rfl
      have y1 := J1'.cell 1 _ rfl
      have y2 := J1'.cell 2 _ rfl
      have y3 := J1'.cell 3 _ rfl
      have y4 := J1'.cell 4 _ rfl
      have y5 := J1'.cell 5 _ rfl
      have y6 := J1'.cell 6 _ rfl
      have y7 := J1'.cell 7 _ rfl
      have y8 := J1'.cell 8 _ rfl
      have y9 := J1'.cell 9 _ rfl
      have y10 := J1'.cell 10 _ rfl
      have y11 := J1'.cell 11 _ rfl
      have y12 := J1'.cell 12 _ rfl
      have hbw2 := hbw.alloc hbw.size (.cells #[.func (.func 129) #[] #[], .int .i64 4] 193)
      have hsz := hbw.size
      have G : ∀ (j : Nat) (b : Bool), j < 0 → bs[j]? = some b → b = true := fun j b hj hb => H.out b (List.mem_of_getElem? (i := j) (by rw [List.getElem?_take, if_pos hj]; exact hb))
      clear G
      cases hq : kindsB p
      · have EE := Lib.hid (HC.out.trans (by simp only [hq]; rfl : _ = (4 : Int)))
        have HQ := Lib.hid hq
        clear hq
        go_wp2_with fail
        refine (kinds_any p _ (HO.out.below hbw2)).mono ?_
        rw [HQ.out]
        rintro e w1 ⟨rfl, hb1⟩
        have x0 := ((Blk.new wr 193 #[.func (.func 129) #[] #[], .int .i64 4]).below hb1).cell 1 _ rfl
        go_wp2
        go_ret
        exact ⟨by rw [EE.out]; rfl, below_trans hbw2 hb1⟩
      · have e1 := Lib.hid (all_step (f := id) (l := bs) (k := 0) H.out (by rw [HBS.out]; rfl) hq)
        have HQ := Lib.hid hq
        clear hq
        go_wp2_with fail
        refine (kinds_any p _ (HO.out.below hbw2)).mono ?_
        rw [HQ.out]
        rintro e w1 ⟨rfl, hb1⟩
        go_wp2
        go_roundw
        case rel => exact ⟨1, by omega, by go_num, e1.out, J1'.below hb1, J2'.below hb1, below_trans hbw2 hb1⟩
        case measure => simp [intOf]
    · have z0 := J2.cell 2 _ rfl
      have z1 := J2.cell 3 _ rfl
      have J1' := J1.alloc (.cells #[.func (.func 130) #[] #[], .int .i64 3] 193)
      have J2' := J2.alloc (.cells #[.func (.func 130) #[] #[], .int .i64 3] 193)
      have y0 := J1'.cell 0 _ rfl
      have y1 := J1'.cell 1 _ rfl
      have y2 := J1'.cell 2 _ rfl
      have y3 := J1'.cell 3 _ rfl
      have y4 := J1'.cell 4 _ rfl
      have y5 := J1'.cell 5 _ rfl
      have y6 := J1'.cell 6 _ rfl
      have y7 := J1'.cell 7 _ rfl
      have y8 := J1'.cell 8 _ rfl
      have y9 := J1'.cell 9 _ rfl
      have y10 := J1'.cell 10 _ rfl
      have y11 := J1'.cell 11 _ rfl
      have y12 := J1'.cell 12 _ rfl
      have hbw2 := hbw.alloc hbw.size (.cells #[.func (.func 130) #[] #[], .int .i64 3] 193)
      have hsz := hbw.size
      have G : ∀ (j : Nat) (b : Bool), j < 1 → bs[j]? = some b → b = true := fun j b hj hb => H.out b (List.mem_of_getElem? (i := j) (by rw [List.getElem?_take, if_pos hj]; exact hb))
      have B0 := Lib.hid (G 0 (kindsB p) (by omega) (by rw [HBS.out]; rfl))
      clear G
      cases hq : rangesB p
      · have EE := Lib.hid (HC.out.trans (by simp only [B0.out, hq]; rfl : _ = (3 : Int)))
        have HQ := Lib.hid hq
        clear hq
        go_wp2_with fail
        refine (ranges_any p _).mono ?_
        rw [HQ.out]
        rintro e w1 ⟨rfl, hb1⟩
        have x0 := ((Blk.new wr 193 #[.func (.func 130) #[] #[], .int .i64 3]).below hb1).cell 1 _ rfl
        go_wp2
        go_ret
        exact ⟨by rw [EE.out]; rfl, below_trans hbw2 hb1⟩
      · have e1 := Lib.hid (all_step (f := id) (l := bs) (k := 1) H.out (by rw [HBS.out]; rfl) hq)
        have HQ := Lib.hid hq
        clear hq
        go_wp2_with fail
        refine (ranges_any p _).mono ?_
        rw [HQ.out]
        rintro e w1 ⟨rfl, hb1⟩
        go_wp2
        go_roundw
        case rel => exact ⟨2, by omega, by go_num, e1.out, J1'.below hb1, J2'.below hb1, below_trans hbw2 hb1⟩
        case measure => simp [intOf]
    · have z0 := J2.cell 4 _ rfl
      have z1 := J2.cell 5 _ rfl
      have J1' := J1.alloc (.cells #[.func (.func 131) #[] #[], .int .i64 2] 193)
      have J2' := J2.alloc (.cells #[.func (.func 131) #[] #[], .int .i64 2] 193)
      have y0 := J1'.cell 0 _ rfl
      have y1 := J1'.cell 1 _ rfl
      have y2 := J1'.cell 2 _ rfl
      have y3 := J1'.cell 3 _ rfl
      have y4 := J1'.cell 4 _ rfl
      have y5 := J1'.cell 5 _ rfl
      have y6 := J1'.cell 6 _ rfl
      have y7 := J1'.cell 7 _ rfl
      have y8 := J1'.cell 8 _ rfl
      have y9 := J1'.cell 9 _ rfl
      have y10 := J1'.cell 10 _ rfl
      have y11 := J1'.cell 11 _ rfl
      have y12 := J1'.cell 12 _ rfl
      have hbw2 := hbw.alloc hbw.size (.cells #[.func (.func 131) #[] #[], .int .i64 2] 193)
      have hsz := hbw.size
      have G : ∀ (j : Nat) (b : Bool), j < 2 → bs[j]? = some b → b = true := fun j b hj hb => H.out b (List.mem_of_getElem? (i := j) (by rw [List.getElem?_take, if_pos hj]; exact hb))
      have B0 := Lib.hid (G 0 (kindsB p) (by omega) (by rw [HBS.out]; rfl))
      have B1 := Lib.hid (G 1 (rangesB p) (by omega) (by rw [HBS.out]; rfl))
      clear G
      cases hq : countsB p
      · have EE := Lib.hid (HC.out.trans (by simp only [B0.out, B1.out, hq]; rfl : _ = (2 : Int)))
        have HQ := Lib.hid hq
        clear hq
        go_wp2_with fail
        refine (counts_any p _ (HO.out.below hbw2)).mono ?_
        rw [HQ.out]
        rintro e w1 ⟨rfl, hb1⟩
        have x0 := ((Blk.new wr 193 #[.func (.func 131) #[] #[], .int .i64 2]).below hb1).cell 1 _ rfl
        go_wp2
        go_ret
        exact ⟨by rw [EE.out]; rfl, below_trans hbw2 hb1⟩
      · have e1 := Lib.hid (all_step (f := id) (l := bs) (k := 2) H.out (by rw [HBS.out]; rfl) hq)
        have HQ := Lib.hid hq
        clear hq
        go_wp2_with fail
        refine (counts_any p _ (HO.out.below hbw2)).mono ?_
        rw [HQ.out]
        rintro e w1 ⟨rfl, hb1⟩
        go_wp2
        go_roundw
        case rel => exact ⟨3, by omega, by go_num, e1.out, J1'.below hb1, J2'.below hb1, below_trans hbw2 hb1⟩
        case measure => simp [intOf]
    · have z0 := J2.cell 6 _ rfl
      have z1 := J2.cell 7 _ rfl
      have J1' := J1.alloc (.cells #[.func (.func 132) #[] #[], .int .i64 5] 193)
      have J2' := J2.alloc (.cells #[.func (.func 132) #[] #[], .int .i64 5] 193)
      have y0 := J1'.cell 0 _ rfl
      have y1 := J1'.cell 1 _ rfl
      have y2 := J1'.cell 2 _ rfl
      have y3 := J1'.cell 3 _ rfl
      have y4 := J1'.cell 4 _ rfl
      have y5 := J1'.cell 5 _ rfl
      have y6 := J1'.cell 6 _ rfl
      have y7 := J1'.cell 7 _ rfl
      have y8 := J1'.cell 8 _ rfl
      have y9 := J1'.cell 9 _ rfl
      have y10 := J1'.cell 10 _ rfl
      have y11 := J1'.cell 11 _ rfl
      have y12 := J1'.cell 12 _ rfl
      have hbw2 := hbw.alloc hbw.size (.cells #[.func (.func 132) #[] #[], .int .i64 5] 193)
      have hsz := hbw.size
      have G : ∀ (j : Nat) (b : Bool), j < 3 → bs[j]? = some b → b = true := fun j b hj hb => H.out b (List.mem_of_getElem? (i := j) (by rw [List.getElem?_take, if_pos hj]; exact hb))
      have B0 := Lib.hid (G 0 (kindsB p) (by omega) (by rw [HBS.out]; rfl))
      have B1 := Lib.hid (G 1 (rangesB p) (by omega) (by rw [HBS.out]; rfl))
      have B2 := Lib.hid (G 2 (countsB p) (by omega) (by rw [HBS.out]; rfl))
      have CC := B2
      clear G
      cases hq : typesB p
      · have EE := Lib.hid (HC.out.trans (by simp only [B0.out, B1.out, B2.out, hq]; rfl : _ = (5 : Int)))
        have HQ := Lib.hid hq
        clear hq
        go_wp2_with fail
        refine (typesFine_any p _ (HO.out.below hbw2) (counts_short CC.out)).mono ?_
        rw [HQ.out]
        rintro e w1 ⟨rfl, hb1⟩
        have x0 := ((Blk.new wr 193 #[.func (.func 132) #[] #[], .int .i64 5]).below hb1).cell 1 _ rfl
        go_wp2
        go_ret
        exact ⟨by rw [EE.out]; rfl, below_trans hbw2 hb1⟩
      · have e1 := Lib.hid (all_step (f := id) (l := bs) (k := 3) H.out (by rw [HBS.out]; rfl) hq)
        have HQ := Lib.hid hq
        clear hq
        go_wp2_with fail
        refine (typesFine_any p _ (HO.out.below hbw2) (counts_short CC.out)).mono ?_
        rw [HQ.out]
        rintro e w1 ⟨rfl, hb1⟩
        go_wp2
        go_roundw
        case rel => exact ⟨4, by omega, by go_num, e1.out, J1'.below hb1, J2'.below hb1, below_trans hbw2 hb1⟩
        case measure => simp [intOf]
    · have z0 := J2.cell 8 _ rfl
      have z1 := J2.cell 9 _ rfl
      have J1' := J1.alloc (.cells #[.func (.func 133) #[] #[], .int .i64 1] 193)
      have J2' := J2.alloc (.cells #[.func (.func 133) #[] #[], .int .i64 1] 193)
      have y0 := J1'.cell 0 _ rfl
      have y1 := J1'.cell 1 _ rfl
      have y2 := J1'.cell 2 _ rfl
      have y3 := J1'.cell 3 _ rfl
      have y4 := J1'.cell 4 _ rfl
      have y5 := J1'.cell 5 _ rfl
      have y6 := J1'.cell 6 _ rfl
      have y7 := J1'.cell 7 _ rfl
      have y8 := J1'.cell 8 _ rfl
      have y9 := J1'.cell 9 _ rfl
      have y10 := J1'.cell 10 _ rfl
      have y11 := J1'.cell 11 _ rfl
      have y12 := J1'.cell 12 _ rfl
      have hbw2 := hbw.alloc hbw.size (.cells #[.func (.func 133) #[] #[], .int .i64 1] 193)
      have hsz := hbw.size
      have G : ∀ (j : Nat) (b : Bool), j < 4 → bs[j]? = some b → b = true := fun j b hj hb => H.out b (List.mem_of_getElem? (i := j) (by rw [List.getElem?_take, if_pos hj]; exact hb))
      have B0 := Lib.hid (G 0 (kindsB p) (by omega) (by rw [HBS.out]; rfl))
      have B1 := Lib.hid (G 1 (rangesB p) (by omega) (by rw [HBS.out]; rfl))
      have B2 := Lib.hid (G 2 (countsB p) (by omega) (by rw [HBS.out]; rfl))
      have B3 := Lib.hid (G 3 (typesB p) (by omega) (by rw [HBS.out]; rfl))
      have CC := B2
      clear G
      cases hq : formB p
      · have EE := Lib.hid (HC.out.trans (by simp only [B0.out, B1.out, B2.out, B3.out, hq]; rfl : _ = (1 : Int)))
        have HQ := Lib.hid hq
        clear hq
        go_wp2_with fail
        refine (form_any p _ (HO.out.below hbw2) (counts_short CC.out) HF.out).mono ?_
        rw [HQ.out]
        rintro e w1 ⟨rfl, hb1⟩
        have x0 := ((Blk.new wr 193 #[.func (.func 133) #[] #[], .int .i64 1]).below hb1).cell 1 _ rfl
        go_wp2
        go_ret
        exact ⟨by rw [EE.out]; rfl, below_trans hbw2 hb1⟩
      · have e1 := Lib.hid (all_step (f := id) (l := bs) (k := 4) H.out (by rw [HBS.out]; rfl) hq)
        have HQ := Lib.hid hq
        clear hq
        go_wp2_with fail
        refine (form_any p _ (HO.out.below hbw2) (counts_short CC.out) HF.out).mono ?_
        rw [HQ.out]
        rintro e w1 ⟨rfl, hb1⟩
        go_wp2
        go_roundw
        case rel => exact ⟨5, by omega, by go_num, e1.out, J1'.below hb1, J2'.below hb1, below_trans hbw2 hb1⟩
        case measure => simp [intOf]
    · have hall := H.out
      rw [HBS.out] at hall
      have B0 : kindsB p = true := hall _ (List.mem_of_getElem? (i := 0) rfl)
      have B1 : rangesB p = true := hall _ (List.mem_of_getElem? (i := 1) rfl)
      have B2 : countsB p = true := hall _ (List.mem_of_getElem? (i := 2) rfl)
      have B3 : typesB p = true := hall _ (List.mem_of_getElem? (i := 3) rfl)
      have B4 : formB p = true := hall _ (List.mem_of_getElem? (i := 4) rfl)
      have EE := Lib.hid (HC.out.trans (by simp only [B0, B1, B2, B3, B4]; rfl : _ = (0 : Int)))
      clear hall B0 B1 B2 B3 B4
      go_wp2
      go_ret
      exact ⟨by rw [EE.out]; rfl, hbw⟩

end Go.Proofs.YtblhidmkalleoaaGreatDoor
namespace Go.Proofs.YtblhidmkalleoaaGreatDoor
open Go.RowKit Go.Maps

def outG (t g : List Int) : List Int := g.map fun c => t.getD c.toNat 0
theorem check_ok {p : Pl} (h : checkP p = 0) : kindsB p = true ∧ rangesB p = true ∧ countsB p = true ∧ typesB p = true ∧ formB p = true := by
  unfold checkP at h
  cases h1 : kindsB p <;> cases h2 : rangesB p <;> cases h3 : countsB p <;> cases h4 : typesB p <;> cases h5 : formB p <;> simp_all
theorem kinds_agg {p : Pl} (h : kindsB p = true) (hg : p.grouped = true) : ∀ a ∈ p.aggs, 1 ≤ a.1 ∧ a.1 ≤ 4 := by
  unfold kindsB at h
  rw [hg] at h
  simp only [Bool.not_true, Bool.false_or, Bool.and_eq_true, allB, List.all_eq_true] at h
  exact fun a ha => btw_of (h.2.2 a ha)
theorem form_group {p : Pl} (h : formB p = true) : ∀ x ∈ p.group, 0 ≤ x ∧ x < (p.left ++ p.right).length := by
  unfold formB at h
  simp only [Bool.and_eq_true] at h
  exact unl_range h.2.2.2.2.1
theorem form_aggs {p : Pl} (h : formB p = true) : ∀ x ∈ p.aggs, x.1 ≠ 1 → 0 ≤ x.2 ∧ x.2 < (p.left ++ p.right).length := by
  unfold formB at h
  simp only [Bool.and_eq_true, allB, List.all_eq_true] at h
  intro x hx hne
  have := h.2.2.2.2.2.2 x hx
  unfold aggOk at this
  rw [if_neg hne, Bool.and_eq_true] at this
  have := btw_of this.1
  omega
theorem map_step {α β : Type} {f : α → β} {l : List α} {k : Nat} {x : α} (h : l[k]? = some x) : (l.take (k + 1)).map f = (l.take k).map f ++ [f x] := by
  rw [List.take_add_one, h]
  simp
theorem one_int (W : World) (x : Int) : Sl (W.alloc (.cells #[.int .i64 x] 3)) (.slice (some ⟨W.heap.size, 0, none⟩) 1 1) 1 [.int .i64 x] := Sl.block (Blk.new W 3 #[.int .i64 x]) 1 1 (Nat.le_refl _) (by decide)
theorem one_int1 (W : World) (o : Obj) (x : Int) : Sl ((W.alloc o).alloc (.cells #[.int .i64 x] 3)) (.slice (some ⟨W.heap.size + 1, 0, none⟩) 1 1) 1 [.int .i64 x] := by
  have := one_int (W.alloc o) x
  rwa [World.size_alloc] at this
theorem one_cell (x : Int) : ∀ u ∈ [Value.int .i64 x], u.oneCell' = true := by intro u hu; simp at hu; subst hu; rfl
theorem cells_step {t : List Int} {x y : Int} (h : y = x) : intCells t ++ [Value.int .i64 x] = intCells (t ++ [y]) := by rw [intCells_app, h]; rfl

end Go.Proofs.YtblhidmkalleoaaGreatDoor
namespace Go.Proofs.YtblhidmkalleoaaGreatDoor
open Go.RowKit Go.Maps

def fitOne (q : Int × Val) : Bool := q.2.k == 0 || q.2.k == q.1
end Go.Proofs.YtblhidmkalleoaaGreatDoor
namespace Go.Proofs.YtblhidmkalleoaaGreatDoor

/-- A value, and how often it stands there. -/
structure Tl where
  v : Val
  n : Int
/-- A group. -/
structure Gp where
  r : List Val
  n : Int
  bags : List (List Tl)
def allT (p : Pl) : List Int := p.left ++ p.right
def ownT (p : Pl) : List Int := p.group.map fun c => (allT p).getD c.toNat 0
def prevOk (prev : Option Val) (x : Val) : Bool := match prev with
  | some y => decide (cmpV y x < 0)
  | none => true
/-- Do a bag's tallies stand as they must, behind one, when so many are left? -/
def bagG (t : Int) : Option Val → Int → List Tl → Bool
  | _, left, [] => left == 0
  | prev, left, x :: l => (checkV x.v == 0) && ((x.v.k == 0 || x.v.k == t) && (decide (1 ≤ x.n) && (decide (x.n ≤ left) && (prevOk prev x.v && bagG t (some x.v) (left - x.n) l))))
/-- May it be the bag of a figure, in a group of so many? -/
def bagB (p : Pl) (a : Int × Int) (n : Int) (bag : List Tl) : Bool := if a.1 = 1 then bag.isEmpty else bagG ((allT p).getD a.2.toNat 0) none n bag
def groupB (p : Pl) (g : Gp) : Bool :=
  (keyErr g.r == 0) && ((g.r.length == (ownT p).length) && (((ownT p).zip g.r).all fitOne && (btw g.n 1 1073741824 && ((g.bags.length == p.aggs.length) && (p.aggs.zip g.bags).all fun q => bagB p q.1 g.n q.2))))
def risesG (l : List Gp) : Bool := (List.range l.length).all fun i => match l[i]?, l[i + 1]? with
  | some a, some b => decide (rowsF a.r b.r < 0)
  | _, _ => true
def checkG (p : Pl) (l : List Gp) : Int :=
  if checkP p ≠ 0 then checkP p else if p.grouped = false then 1 else if 4096 < l.length then 2 else if (l.all (groupB p) && risesG l) = true then 0 else 1
/-- A figure of a bag. -/
def nullG : Val := ⟨0, 0, ⟨#[]⟩⟩
def wrapI (n : Int) : Int := IntKind.i64.wrap n
def sumG (bag : List Tl) : Int := bag.foldl (fun s x => wrapI (s + wrapI (x.v.n * x.n))) 0
def solid (bag : List Tl) : List Tl := match bag with
  | x :: t => if x.v.k = 0 then t else x :: t
  | [] => []
def figG (fn : Int) (n : Int) (bag : List Tl) : Val :=
  if fn = 1 then ⟨2, n, ⟨#[]⟩⟩ else match solid bag with
  | [] => nullG
  | x :: t => if fn = 3 then x.v else if fn = 4 then ((x :: t).getLast (by simp)).v else ⟨2, sumG (x :: t), ⟨#[]⟩⟩
def rowG (p : Pl) (g : Gp) : List Val := g.r ++ (p.aggs.zip g.bags).map fun q => figG q.1.1 g.n q.2
end Go.Proofs.YtblhidmkalleoaaGreatDoor
