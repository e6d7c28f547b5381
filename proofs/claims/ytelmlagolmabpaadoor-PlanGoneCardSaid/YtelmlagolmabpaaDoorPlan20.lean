/-
  Plans: Gone, and the reference's GoneAt.
-/
import Derived.Test.YtelmlagolmabpaaDoorPlan13
import Derived.Test.YtelmlagolmabpaaDoorPlan12
namespace Go.Proofs.YtelmlagolmabpaaDoor
open Go.RowKit Go.Maps
open tm (fitsB fits_any rfits_any untilF until_yes runtil_any winF window_any start_any fits_of)

theorem winB (t size : Int) (hs : 1 ≤ size) : t - size < winF t size ∧ winF t size ≤ t := by
  unfold winF
  have h1 := Int.emod_nonneg t (b := size) (by omega)
  have h2 := Int.emod_lt_of_pos t (b := size) (by omega)
  omega
theorem fits_neg {t : Int} (h : fitsB t = true) : fitsB (-t) = true := by
  have := fits_of h
  simp [fitsB]
  omega
def goneF (p : Pl) (side mark : Int) : Int :=
  if p.kind = 1 then (if side = 2 then untilF mark (-p.low) else untilF mark p.high)
  else if p.kind = 2 then (if mark = 1099511627776 then 1099511627776 else winF (mark + 1) p.size - 1)
  else (if side = 2 then -1099511627777 else mark)
def goneR (p : Pl) (side mark : Int) : Int × Int :=
  if checkP p = 0 then if side = 1 ∨ side = 2 then if fitsB mark = true then (goneF p side mark, 0) else (0, 3) else (0, 4) else (0, checkP p)
theorem check_kind {p : Pl} (h : checkP p = 0) : (p.kind = 1 ∧ fitsB p.low = true ∧ fitsB p.high = true) ∨ (p.kind = 2 ∧ 1 ≤ p.size ∧ p.size ≤ 1099511627776) ∨ p.kind = 3 := by
  have hok := check_ok h
  have h1 := hok.1
  have h2 := hok.2.1
  unfold kindsB at h1
  unfold rangesB at h2
  rw [Bool.and_eq_true] at h1 h2
  have := btw_of h1.1
  by_cases k1 : p.kind = 1
  · have h2 := h2.1
    rw [if_pos k1] at h2
    simp only [Bool.and_eq_true] at h2
    exact .inl ⟨k1, h2.1, h2.2.1⟩
  · by_cases k2 : p.kind = 2
    · have h2 := h2.1
      rw [if_neg k1, if_pos k2] at h2
      simp only [Bool.and_eq_true] at h2
      have := btw_of h2.2.2
      exact .inr (.inl ⟨k2, this.1, this.2⟩)
    · exact .inr (.inr (by omega))

set_option maxHeartbeats 4000000 in
set_option maxRecDepth 10000 in
theorem goneAt_any (p : Pl) (side mark : Int) (w : World) (hz : checkP p = 0) (hsd : side = 1 ∨ side = 2) (hm : fitsB mark = true) :
    Calls Tryd.prog 26 #[.agg #[.int .i64 p.kind, .int .i64 p.mode, .int .i64 p.low, .int .i64 p.high, .int .i64 p.size, .int .i64 p.limit, p.vl, p.vr, p.vk, p.vq, .bool p.grouped, p.vg, p.va], .int .i64 side, .int .i64 mark] w fun e w' => e = .returned (.int .i64 (goneF p side mark)) ∧ Below w.heap.size w w' := by
  have HE : Hid (goneF p side mark = (if p.kind = 1 then (if side = 2 then untilF mark (-p.low) else untilF mark p.high)
    else if p.kind = 2 then (if mark = 1099511627776 then 1099511627776 else winF (mark + 1) p.size - 1)
    else (if side = 2 then -1099511627777 else mark))) := Lib.hid rfl
  have hk := check_kind hz
  have hb := fits_of hm
  generalize goneF p side mark = R at HE ⊢
  clear hz
  obtain ⟨kind, mode, low, high, size, limit, vl, vr, vk, vq, grouped, vg, va, left, right, lkeys, rkeys, group, aggs⟩ := p
  simp only at HE hk ⊢
  have hB := fun k => below_alloc w (.cells #[.int .i64 k, .int .i64 mode, .int .i64 low, .int .i64 high, .int .i64 size, .int .i64 limit, vl, vr, vk, vq, .bool grouped, vg, va] 25)
  have HM := Lib.hid hm
  clear hm
  rcases hk with ⟨rfl, f1, f2⟩ | ⟨rfl, s1, s2⟩ | rfl
  · have b1 := fits_of f1
    have b2 := fits_of f2
    have F1 := Lib.hid (fits_neg f1)
    have F2 := Lib.hid f2
    clear f1 f2
    rcases hsd with rfl | rfl
    · have EE : Hid (R = untilF mark high) := Lib.hid HE.out
      clear HE
      go_enter Tryd.func26, Tryd.ntmps26
      go_wp2_with fail
      refine (runtil_any mark high _ HM.out F2.out).mono ?_
      rintro e w' ⟨rfl, rfl⟩
      go_wp2
      go_ret
      exact ⟨ret_int (by rw [EE.out]), hB _⟩
    · have EE : Hid (R = untilF mark (-low)) := Lib.hid HE.out
      clear HE
      go_enter Tryd.func26, Tryd.ntmps26
      go_wp2_with fail
      refine (runtil_any mark (-low) _ HM.out F1.out).mono ?_
      rintro e w' ⟨rfl, rfl⟩
      go_wp2
      go_ret
      exact ⟨ret_int (by rw [EE.out]), hB _⟩
  · by_cases hmx : mark = 1099511627776
    · have EE : Hid (R = 1099511627776) := Lib.hid (by rw [HE.out, if_neg (by decide), if_pos rfl, if_pos hmx])
      clear HE
      subst hmx
      go_enter Tryd.func26, Tryd.ntmps26
      go_wp2
      go_ret
      exact ⟨ret_int (by rw [EE.out]), hB _⟩
    · have EE : Hid (R = winF (mark + 1) size - 1) := Lib.hid (by rw [HE.out, if_neg (by decide), if_pos rfl, if_neg hmx])
      have bm := beqF hmx
      have hw := winB (mark + 1) size s1
      have hmb : mark < 1099511627776 := by omega
      clear HE hmx
      go_enter Tryd.func26, Tryd.ntmps26
      go_wp2_with fail
      refine (start_any (mark + 1) size _ (by omega) (by omega) s1 s2).mono ?_
      rintro e w' ⟨rfl, rfl⟩
      go_wp2
      go_ret
      exact ⟨ret_int (by rw [EE.out]), hB _⟩
  · rcases hsd with rfl | rfl
    · have EE : Hid (R = mark) := Lib.hid HE.out
      clear HE
      go_enter Tryd.func26, Tryd.ntmps26
      go_wp2
      go_ret
      exact ⟨ret_int (by rw [EE.out]), hB _⟩
    · have EE : Hid (R = -1099511627777) := Lib.hid HE.out
      clear HE
      go_enter Tryd.func26, Tryd.ntmps26
      go_wp2
      go_ret
      exact ⟨ret_int (by rw [EE.out]), hB _⟩

set_option maxHeartbeats 4000000 in
set_option maxRecDepth 10000 in
theorem gone_any (p : Pl) (side mark : Int) (w : World) (h : p.ok w) (hf : p.fit) :
    Calls Tryd.prog 24 #[.agg #[.int .i64 p.kind, .int .i64 p.mode, .int .i64 p.low, .int .i64 p.high, .int .i64 p.size, .int .i64 p.limit, p.vl, p.vr, p.vk, p.vq, .bool p.grouped, p.vg, p.va], .int .i64 side, .int .i64 mark] w fun e w' => e = .returned (.tuple #[.int .i64 (goneR p side mark).1, .int .i64 (goneR p side mark).2]) ∧ Below w.heap.size w w' := by
  have HC := Lib.hid (fun w' (hb : Below w.heap.size w w') => check_any p w' (h.below hb) hf)
  clear h hf
  by_cases hq : checkP p = 0
  · rw [hq] at HC
    have hk := check_kind hq
    have HG : Hid (goneR p side mark = if side = 1 ∨ side = 2 then if fitsB mark = true then (goneF p side mark, 0) else (0, 3) else (0, 4)) := Lib.hid (if_pos hq)
    have HE : Hid (goneF p side mark = (if p.kind = 1 then (if side = 2 then untilF mark (-p.low) else untilF mark p.high)
      else if p.kind = 2 then (if mark = 1099511627776 then 1099511627776 else winF (mark + 1) p.size - 1)
      else (if side = 2 then -1099511627777 else mark))) := Lib.hid rfl
    generalize goneF p side mark = R at HE HG
    generalize goneR p side mark = G at HG ⊢
    clear hq
    obtain ⟨kind, mode, low, high, size, limit, vl, vr, vk, vq, grouped, vg, va, left, right, lkeys, rkeys, group, aggs⟩ := p
    simp only at HC HE HG hk ⊢
    have hB := fun k => below_alloc w (.cells #[.int .i64 k, .int .i64 mode, .int .i64 low, .int .i64 high, .int .i64 size, .int .i64 limit, vl, vr, vk, vq, .bool grouped, vg, va] 25)
    have K1 := fun k => Blk.new w 25 #[.int .i64 k, .int .i64 mode, .int .i64 low, .int .i64 high, .int .i64 size, .int .i64 limit, vl, vr, vk, vq, .bool grouped, vg, va]
    by_cases hsd : side = 1 ∨ side = 2
    · by_cases hm : fitsB mark = true
      · have GG : Hid (G = (R, 0)) := Lib.hid (by rw [HG.out, if_pos hsd, if_pos hm])
        have hb := fits_of hm
        clear HG
        have HM := Lib.hid hm
        clear hm
        rcases hk with ⟨rfl, f1, f2⟩ | ⟨rfl, s1, s2⟩ | rfl
        · have b1 := fits_of f1
          have b2 := fits_of f2
          have F1 := Lib.hid (fits_neg f1)
          have F2 := Lib.hid f2
          clear f1 f2
          rcases hsd with rfl | rfl
          · have EE : Hid (R = untilF mark high) := Lib.hid HE.out
            clear HE
            go_enter Tryd.func24, Tryd.ntmps24
            go_wp2_with fail
            refine (HC.out _ (hB _)).mono ?_
            rintro e w1 ⟨rfl, hb1⟩
            have B1 := below_trans (hB _) hb1
            obtain ⟨y0, y1, y2, y3, y4, y5, y6, y7, y8, y9, y10, y11, y12⟩ := pl_cells ((K1 1).below hb1)
            clear K1 hB hb1 HC
            go_wp2_with fail
            refine (fits_any _ _).mono ?_
            rw [HM.out]
            rintro e w' ⟨rfl, rfl⟩
            go_wp2_with fail
            refine (until_yes mark high _ HM.out F2.out).mono ?_
            rintro e w' ⟨rfl, rfl⟩
            go_wp2
            go_ret2
            exact ⟨by rw [GG.out, EE.out]; rfl, B1⟩
          · have EE : Hid (R = untilF mark (-low)) := Lib.hid HE.out
            clear HE
            go_enter Tryd.func24, Tryd.ntmps24
            go_wp2_with fail
            refine (HC.out _ (hB _)).mono ?_
            rintro e w1 ⟨rfl, hb1⟩
            have B1 := below_trans (hB _) hb1
            obtain ⟨y0, y1, y2, y3, y4, y5, y6, y7, y8, y9, y10, y11, y12⟩ := pl_cells ((K1 1).below hb1)
            clear K1 hB hb1 HC
            go_wp2_with fail
            refine (fits_any _ _).mono ?_
            rw [HM.out]
            rintro e w' ⟨rfl, rfl⟩
            go_wp2_with fail
            refine (until_yes mark (-low) _ HM.out F1.out).mono ?_
            rintro e w' ⟨rfl, rfl⟩
            go_wp2
            go_ret2
            exact ⟨by rw [GG.out, EE.out]; rfl, B1⟩
        · by_cases hmx : mark = 1099511627776
          · have EE : Hid (R = 1099511627776) := Lib.hid (by rw [HE.out, if_neg (by decide), if_pos rfl, if_pos hmx])
            clear HE
            subst hmx
            rcases hsd with rfl | rfl
            all_goals
              go_enter Tryd.func24, Tryd.ntmps24
              go_wp2_with fail
              refine (HC.out _ (hB _)).mono ?_
              rintro e w1 ⟨rfl, hb1⟩
              have B1 := below_trans (hB _) hb1
              obtain ⟨y0, y1, y2, y3, y4, y5, y6, y7, y8, y9, y10, y11, y12⟩ := pl_cells ((K1 2).below hb1)
              clear K1 hB hb1 HC
              go_wp2_with fail
              refine (fits_any _ _).mono ?_
              rw [HM.out]
              rintro e w' ⟨rfl, rfl⟩
              go_wp2
              go_ret2
              exact ⟨by rw [GG.out, EE.out]; rfl, B1⟩
          · have EE : Hid (R = winF (mark + 1) size - 1) := Lib.hid (by rw [HE.out, if_neg (by decide), if_pos rfl, if_neg hmx])
            have bm := beqF hmx
            have hw := winB (mark + 1) size s1
            have hmb : mark < 1099511627776 := by omega
            clear HE hmx
            rcases hsd with rfl | rfl
            all_goals
              go_enter Tryd.func24, Tryd.ntmps24
              go_wp2_with fail
              refine (HC.out _ (hB _)).mono ?_
              rintro e w1 ⟨rfl, hb1⟩
              have B1 := below_trans (hB _) hb1
              obtain ⟨y0, y1, y2, y3, y4, y5, y6, y7, y8, y9, y10, y11, y12⟩ := pl_cells ((K1 2).below hb1)
              clear K1 hB hb1 HC
              go_wp2_with fail
              refine (fits_any _ _).mono ?_
              rw [HM.out]
              rintro e w' ⟨rfl, rfl⟩
              go_wp2_with fail
              refine (window_any (mark + 1) size _ (by omega) (by omega) s1 s2).mono ?_
              rintro e w' ⟨rfl, rfl⟩
              go_wp2
              go_ret2
              exact ⟨by rw [GG.out, EE.out]; rfl, B1⟩
        · rcases hsd with rfl | rfl
          · have EE : Hid (R = mark) := Lib.hid HE.out
            clear HE
            go_enter Tryd.func24, Tryd.ntmps24
            go_wp2_with fail
            refine (HC.out _ (hB _)).mono ?_
            rintro e w1 ⟨rfl, hb1⟩
            have B1 := below_trans (hB _) hb1
            obtain ⟨y0, y1, y2, y3, y4, y5, y6, y7, y8, y9, y10, y11, y12⟩ := pl_cells ((K1 3).below hb1)
            clear K1 hB hb1 HC
            go_wp2_with fail
            refine (fits_any _ _).mono ?_
            rw [HM.out]
            rintro e w' ⟨rfl, rfl⟩
            go_wp2
            go_ret2
            exact ⟨by rw [GG.out, EE.out]; rfl, B1⟩
          · have EE : Hid (R = -1099511627777) := Lib.hid HE.out
            clear HE
            go_enter Tryd.func24, Tryd.ntmps24
            go_wp2_with fail
            refine (HC.out _ (hB _)).mono ?_
            rintro e w1 ⟨rfl, hb1⟩
            have B1 := below_trans (hB _) hb1
            obtain ⟨y0, y1, y2, y3, y4, y5, y6, y7, y8, y9, y10, y11, y12⟩ := pl_cells ((K1 3).below hb1)
            clear K1 hB hb1 HC
            go_wp2_with fail
            refine (fits_any _ _).mono ?_
            rw [HM.out]
            rintro e w' ⟨rfl, rfl⟩
            go_wp2
            go_ret2
            exact ⟨by rw [GG.out, EE.out]; rfl, B1⟩
      · have hm0 : fitsB mark = false := by simpa using hm
        have GG : Hid (G = (0, 3)) := Lib.hid (by rw [HG.out, if_pos hsd, if_neg hm])
        have HM := Lib.hid hm0
        clear HG hm hm0 HE hk
        rcases hsd with rfl | rfl
        all_goals
          go_enter Tryd.func24, Tryd.ntmps24
          go_wp2_with fail
          refine (HC.out _ (hB _)).mono ?_
          rintro e w1 ⟨rfl, hb1⟩
          go_wp2_with fail
          refine (fits_any _ _).mono ?_
          rw [HM.out]
          rintro e w' ⟨rfl, rfl⟩
          go_wp2
          go_ret2
          exact ⟨by rw [GG.out]; rfl, below_trans (hB _) hb1⟩
    · have GG : Hid (G = (0, 4)) := Lib.hid (by rw [HG.out, if_neg hsd])
      have b1 := bneT (fun h => hsd (.inl h) : side ≠ 1)
      have b2 := bneT (fun h => hsd (.inr h) : side ≠ 2)
      clear HG HE hk hsd
      go_enter Tryd.func24, Tryd.ntmps24
      go_wp2_with fail
      refine (HC.out _ (hB _)).mono ?_
      rintro e w1 ⟨rfl, hb1⟩
      go_wp2
      go_ret2
      exact ⟨by rw [GG.out]; rfl, below_trans (hB _) hb1⟩
  · have HG : Hid (goneR p side mark = (0, checkP p)) := Lib.hid (if_neg hq)
    rw [HG.out]
    generalize checkP p = q at HC hq ⊢
    have hb' := bneT hq
    clear hq
    obtain ⟨kind, mode, low, high, size, limit, vl, vr, vk, vq, grouped, vg, va, left, right, lkeys, rkeys, group, aggs⟩ := p
    simp only at HC ⊢
    have hB := below_alloc w (.cells #[.int .i64 kind, .int .i64 mode, .int .i64 low, .int .i64 high, .int .i64 size, .int .i64 limit, vl, vr, vk, vq, .bool grouped, vg, va] 25)
    go_enter Tryd.func24, Tryd.ntmps24
    go_wp2_with fail
    refine (HC.out _ hB).mono ?_
    rintro e w1 ⟨rfl, hb1⟩
    go_wp2
    go_ret2
    exact ⟨rfl, below_trans hB hb1⟩

end Go.Proofs.YtelmlagolmabpaaDoor
