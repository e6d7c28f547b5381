/-
  Plans: the law PlanPasses.
-/
import Derived.Test.YtelmlagolmabpaaDoorPlan23
namespace Go.Proofs.YtelmlagolmabpaaDoor
open Go.RowKit Go.Maps
open tm (fitsB fits_any fits_of untilF winF window_any meetsF meets_any meets_ok)

theorem winF_mono {s t size : Int} (hs : 1 ≤ size) (h : s ≤ t) : winF s size ≤ winF t size := by
  have e1 := Int.emod_add_mul_ediv s size
  have e2 := Int.emod_add_mul_ediv t size
  have hd : s / size ≤ t / size := Int.ediv_le_ediv (by omega) h
  have hm : size * (s / size) ≤ size * (t / size) := Int.mul_le_mul_of_nonneg_left hd (by omega)
  unfold winF
  omega

/-- The plain law: who stands at Gone, or ahead, meets nobody behind the mark. -/
theorem passes_meets {p : Pl} {side mark t u : Int} (h : checkP p = 0) (hk : p.kind = 1) (hsd : side = 1 ∨ side = 2) (ht : fitsB t = true) (hu : fitsB u = true) :
    goneF p side mark < t ∨ u ≤ mark ∨ (meetsF (if side = 2 then u else t) (if side = 2 then t else u) p.low p.high).1 = false := by
  by_cases h1 : goneF p side mark < t
  · exact .inl h1
  by_cases h2 : u ≤ mark
  · exact .inr (.inl h2)
  refine .inr (.inr ?_)
  have hb := fits_of hu
  have hk' := check_kind h
  rw [hk] at hk'
  have hf : fitsB p.low = true ∧ fitsB p.high = true := by
    rcases hk' with ⟨-, a, b⟩ | ⟨a, -⟩ | a
    · exact ⟨a, b⟩
    · exact absurd a (by decide)
    · exact absurd a (by decide)
  have hlh : p.low ≤ p.high := by
    have := (check_ok h).2.2.2.2
    unfold formB at this
    simp only [Bool.and_eq_true, Bool.not_eq_true', decide_eq_false_iff_not] at this
    omega
  have hmx : mark ≠ 1099511627776 := by omega
  unfold goneF at h1
  rw [if_pos hk] at h1
  unfold untilF at h1
  rw [if_neg hmx, if_neg hmx] at h1
  rcases hsd with rfl | rfl
  · rw [if_neg (by decide)] at h1
    rw [if_neg (by decide), if_neg (by decide), meets_ok ht hu hf.1 hf.2 hlh]
    simp
    omega
  · rw [if_pos rfl] at h1
    rw [if_pos rfl, if_pos rfl, meets_ok hu ht hf.1 hf.2 hlh]
    simp
    omega
theorem passes_window {p : Pl} {side mark t u : Int} (h : checkP p = 0) (hk : p.kind = 2) (hu : fitsB u = true) :
    goneF p side mark < t ∨ u ≤ mark ∨ ((winF t p.size == winF u p.size) = false ∧ (winF u p.size == winF t p.size) = false) := by
  by_cases h1 : goneF p side mark < t
  · exact .inl h1
  by_cases h2 : u ≤ mark
  · exact .inr (.inl h2)
  refine .inr (.inr ?_)
  have hb := fits_of hu
  have hk' := check_kind h
  rw [hk] at hk'
  have hs : 1 ≤ p.size := by
    rcases hk' with ⟨a, -⟩ | ⟨-, a, -⟩ | a
    · exact absurd a (by decide)
    · exact a
    · exact absurd a (by decide)
  have hmx : mark ≠ 1099511627776 := by omega
  unfold goneF at h1
  rw [hk, if_neg (by decide), if_pos rfl, if_neg hmx] at h1
  have m1 := winF_mono (size := p.size) hs (show mark + 1 ≤ u from by omega)
  have m2 := winB t p.size hs
  constructor
  · exact beqF (by omega)
  · exact beqF (by omega)

set_option maxHeartbeats 16000000 in
set_option maxRecDepth 10000 in
theorem planPasses_walk (p : Pl) (side mark t u : Int) (w : World) (h : p.ok w) (hf : p.fit) (hm : Mx w) :
    Calls Tryd.prog 6 #[.agg #[.int .i64 p.kind, .int .i64 p.mode, .int .i64 p.low, .int .i64 p.high, .int .i64 p.size, .int .i64 p.limit, p.vl, p.vr, p.vk, p.vq, .bool p.grouped, p.vg, p.va], .int .i64 side, .int .i64 mark, .int .i64 t, .int .i64 u] w fun e w' => e = .returned (.bool true) ∧ Below w.heap.size w w' := by
  have HM := Lib.hid hm
  have HG := Lib.hid (fun w' (hb : Below w.heap.size w w') => gone_any p side mark w' (h.below hb) hf)
  have HQ : Hid (goneR p side mark = if checkP p = 0 then if side = 1 ∨ side = 2 then if fitsB mark = true then (goneF p side mark, 0) else (0, 3) else (0, 4) else (0, checkP p)) := Lib.hid rfl
  have HPM := Lib.hid (fun hz hk hsd ht hu => passes_meets (p := p) (side := side) (mark := mark) (t := t) (u := u) hz hk hsd ht hu)
  have HPW := Lib.hid (fun hz hk hu => passes_window (p := p) (side := side) (mark := mark) (t := t) (u := u) hz hk hu)
  have HCK := Lib.hid (fun hz => check_kind (p := p) hz)
  clear h hf hm
  generalize goneR p side mark = G at HG HQ
  generalize goneF p side mark = F at HQ HPM HPW
  generalize checkP p = q at HQ HPM HPW HCK
  obtain ⟨g1, g2⟩ := G
  obtain ⟨kind, mode, low, high, size, limit, vl, vr, vk, vq, grouped, vg, va, left, right, lkeys, rkeys, group, aggs⟩ := p
  simp only at HG HPM HPW HCK ⊢
  have HB0 := fun k => below_alloc w (.cells #[.int .i64 k, .int .i64 mode, .int .i64 low, .int .i64 high, .int .i64 size, .int .i64 limit, vl, vr, vk, vq, .bool grouped, vg, va] 25)
  have HK0 := fun k => Blk.new w 25 #[.int .i64 k, .int .i64 mode, .int .i64 low, .int .i64 high, .int .i64 size, .int .i64 limit, vl, vr, vk, vq, .bool grouped, vg, va]
  by_cases hg : g2 = 0
  · subst hg
    have hz : q = 0 ∧ (side = 1 ∨ side = 2) ∧ g1 = F := by
      have e := HQ.out
      by_cases h1 : q = 0
      · rw [if_pos h1] at e
        by_cases h2 : side = 1 ∨ side = 2
        · rw [if_pos h2] at e
          by_cases h3 : fitsB mark = true
          · rw [if_pos h3] at e
            injection e with e1 e2
            exact ⟨h1, h2, e1⟩
          · rw [if_neg h3] at e
            injection e with e1 e2
            exact absurd e2 (by decide)
        · rw [if_neg h2] at e
          injection e with e1 e2
          exact absurd e2 (by decide)
      · rw [if_neg h1] at e
        injection e with e1 e2
        exact absurd e2.symm h1
    obtain ⟨rfl, hsd, rfl⟩ := hz
    clear HQ
    rcases HCK.out rfl with ⟨rfl, f1, f2⟩ | ⟨rfl, s1, s2⟩ | rfl
    · cases ht : fitsB t
      · have T1 := Lib.hid ht
        clear HPM HPW HCK ht hsd
        have B0 := HB0 1
        have K0 := HK0 1
        obtain ⟨y0, y1, y2, y3, y4, y5, y6, y7, y8, y9, y10, y11, y12⟩ := pl_cells K0
        clear HB0 HK0
        go_enter Tryd.func6, Tryd.ntmps6
        go_wp2_with fail
        refine (HG.out _ B0).mono ?_
        rintro e w1 ⟨rfl, hb⟩
        have B1 := below_trans B0 hb
        have K1 := K0.below hb
        clear y0 y1 y2 y3 y4 y5 y6 y7 y8 y9 y10 y11 y12
        obtain ⟨y0, y1, y2, y3, y4, y5, y6, y7, y8, y9, y10, y11, y12⟩ := pl_cells K1
        clear hb K0 B0
        go_wp2_with fail
        refine (fits_any t _).mono ?_
        rw [T1.out]
        rintro e w' ⟨rfl, rfl⟩
        go_wp2_with fail
        refine (planBegun_any _ (HM.out.below B1)).mono ?_
        rintro e w2 ⟨rfl, hb⟩
        have B2 := below_trans B1 hb
        have K2 := K1.below hb
        clear y0 y1 y2 y3 y4 y5 y6 y7 y8 y9 y10 y11 y12
        obtain ⟨y0, y1, y2, y3, y4, y5, y6, y7, y8, y9, y10, y11, y12⟩ := pl_cells K2
        clear hb K1 B1
        go_wp2
        go_ret
        exact ⟨rfl, B2⟩
      · cases hu : fitsB u
        · have T1 := Lib.hid ht
          have T2 := Lib.hid hu
          clear HPM HPW HCK ht hu hsd
          have B0 := HB0 1
          have K0 := HK0 1
          obtain ⟨y0, y1, y2, y3, y4, y5, y6, y7, y8, y9, y10, y11, y12⟩ := pl_cells K0
          clear HB0 HK0
          go_enter Tryd.func6, Tryd.ntmps6
          go_wp2_with fail
          refine (HG.out _ B0).mono ?_
          rintro e w1 ⟨rfl, hb⟩
          have B1 := below_trans B0 hb
          have K1 := K0.below hb
          clear y0 y1 y2 y3 y4 y5 y6 y7 y8 y9 y10 y11 y12
          obtain ⟨y0, y1, y2, y3, y4, y5, y6, y7, y8, y9, y10, y11, y12⟩ := pl_cells K1
          clear hb K0 B0
          go_wp2_with fail
          refine (fits_any t _).mono ?_
          rw [T1.out]
          rintro e w' ⟨rfl, rfl⟩
          go_wp2_with fail
          refine (fits_any u _).mono ?_
          rw [T2.out]
          rintro e w' ⟨rfl, rfl⟩
          go_wp2_with fail
          refine (planBegun_any _ (HM.out.below B1)).mono ?_
          rintro e w2 ⟨rfl, hb⟩
          have B2 := below_trans B1 hb
          have K2 := K1.below hb
          clear y0 y1 y2 y3 y4 y5 y6 y7 y8 y9 y10 y11 y12
          obtain ⟨y0, y1, y2, y3, y4, y5, y6, y7, y8, y9, y10, y11, y12⟩ := pl_cells K2
          clear hb K1 B1
          go_wp2
          go_ret
          exact ⟨rfl, B2⟩
        · have T1 := Lib.hid ht
          have T2 := Lib.hid hu
          have HH := HPM.out rfl rfl hsd ht hu
          clear HPM HPW HCK ht hu
          rcases hsd with rfl | rfl
          · have HMT := Lib.hid (fun w' => meets_any t u low high w')
            have hh : g1 < t ∨ u ≤ mark ∨ (meetsF t u low high).1 = false := HH
            clear HH
            generalize meetsF t u low high = mm at HMT hh
            obtain ⟨mb, me⟩ := mm
            simp only at hh HMT
            have hh' : g1 < t ∨ (¬ g1 < t ∧ u ≤ mark) ∨ (¬ g1 < t ∧ ¬ u ≤ mark ∧ mb = false) := by
              by_cases h1 : g1 < t
              · exact .inl h1
              · by_cases h2 : u ≤ mark
                · exact .inr (.inl ⟨h1, h2⟩)
                · refine .inr (.inr ⟨h1, h2, ?_⟩)
                  rcases hh with h | h | h
                  · exact absurd h h1
                  · exact absurd h h2
                  · exact h
            clear hh
            rcases hh' with h1 | ⟨h1, h2⟩ | ⟨h1, h2, rfl⟩
            all_goals
              have B0 := HB0 1
              have K0 := HK0 1
              obtain ⟨y0, y1, y2, y3, y4, y5, y6, y7, y8, y9, y10, y11, y12⟩ := pl_cells K0
              clear HB0 HK0
              go_enter Tryd.func6, Tryd.ntmps6
              go_wp2_with fail
              refine (HG.out _ B0).mono ?_
              rintro e w1 ⟨rfl, hb⟩
              have B1 := below_trans B0 hb
              have K1 := K0.below hb
              clear y0 y1 y2 y3 y4 y5 y6 y7 y8 y9 y10 y11 y12
              obtain ⟨y0, y1, y2, y3, y4, y5, y6, y7, y8, y9, y10, y11, y12⟩ := pl_cells K1
              clear hb K0 B0
              go_wp2_with fail
              refine (fits_any t _).mono ?_
              rw [T1.out]
              rintro e w' ⟨rfl, rfl⟩
              go_wp2_with fail
              refine (fits_any u _).mono ?_
              rw [T2.out]
              rintro e w' ⟨rfl, rfl⟩
              go_wp2_with fail
              refine (HMT.out _).mono ?_
              rintro e w' ⟨rfl, rfl⟩
              go_wp2_with fail
              refine (planBegun_any _ (HM.out.below B1)).mono ?_
              rintro e w2 ⟨rfl, hb⟩
              have B2 := below_trans B1 hb
              have K2 := K1.below hb
              clear y0 y1 y2 y3 y4 y5 y6 y7 y8 y9 y10 y11 y12
              obtain ⟨y0, y1, y2, y3, y4, y5, y6, y7, y8, y9, y10, y11, y12⟩ := pl_cells K2
              clear hb K1 B1
              go_wp2
              go_ret
              exact ⟨rfl, B2⟩
          · have HMT := Lib.hid (fun w' => meets_any u t low high w')
            have hh : g1 < t ∨ u ≤ mark ∨ (meetsF u t low high).1 = false := HH
            clear HH
            generalize meetsF u t low high = mm at HMT hh
            obtain ⟨mb, me⟩ := mm
            simp only at hh HMT
            have hh' : g1 < t ∨ (¬ g1 < t ∧ u ≤ mark) ∨ (¬ g1 < t ∧ ¬ u ≤ mark ∧ mb = false) := by
              by_cases h1 : g1 < t
              · exact .inl h1
              · by_cases h2 : u ≤ mark
                · exact .inr (.inl ⟨h1, h2⟩)
                · refine .inr (.inr ⟨h1, h2, ?_⟩)
                  rcases hh with h | h | h
                  · exact absurd h h1
                  · exact absurd h h2
                  · exact h
            clear hh
            rcases hh' with h1 | ⟨h1, h2⟩ | ⟨h1, h2, rfl⟩
            all_goals
              have B0 := HB0 1
              have K0 := HK0 1
              obtain ⟨y0, y1, y2, y3, y4, y5, y6, y7, y8, y9, y10, y11, y12⟩ := pl_cells K0
              clear HB0 HK0
              go_enter Tryd.func6, Tryd.ntmps6
              go_wp2_with fail
              refine (HG.out _ B0).mono ?_
              rintro e w1 ⟨rfl, hb⟩
              have B1 := below_trans B0 hb
              have K1 := K0.below hb
              clear y0 y1 y2 y3 y4 y5 y6 y7 y8 y9 y10 y11 y12
              obtain ⟨y0, y1, y2, y3, y4, y5, y6, y7, y8, y9, y10, y11, y12⟩ := pl_cells K1
              clear hb K0 B0
              go_wp2_with fail
              refine (fits_any t _).mono ?_
              rw [T1.out]
              rintro e w' ⟨rfl, rfl⟩
              go_wp2_with fail
              refine (fits_any u _).mono ?_
              rw [T2.out]
              rintro e w' ⟨rfl, rfl⟩
              go_wp2_with fail
              refine (HMT.out _).mono ?_
              rintro e w' ⟨rfl, rfl⟩
              go_wp2_with fail
              refine (planBegun_any _ (HM.out.below B1)).mono ?_
              rintro e w2 ⟨rfl, hb⟩
              have B2 := below_trans B1 hb
              have K2 := K1.below hb
              clear y0 y1 y2 y3 y4 y5 y6 y7 y8 y9 y10 y11 y12
              obtain ⟨y0, y1, y2, y3, y4, y5, y6, y7, y8, y9, y10, y11, y12⟩ := pl_cells K2
              clear hb K1 B1
              go_wp2
              go_ret
              exact ⟨rfl, B2⟩
    · cases ht : fitsB t
      · have T1 := Lib.hid ht
        clear HPM HPW HCK ht hsd
        have B0 := HB0 2
        have K0 := HK0 2
        obtain ⟨y0, y1, y2, y3, y4, y5, y6, y7, y8, y9, y10, y11, y12⟩ := pl_cells K0
        clear HB0 HK0
        go_enter Tryd.func6, Tryd.ntmps6
        go_wp2_with fail
        refine (HG.out _ B0).mono ?_
        rintro e w1 ⟨rfl, hb⟩
        have B1 := below_trans B0 hb
        have K1 := K0.below hb
        clear y0 y1 y2 y3 y4 y5 y6 y7 y8 y9 y10 y11 y12
        obtain ⟨y0, y1, y2, y3, y4, y5, y6, y7, y8, y9, y10, y11, y12⟩ := pl_cells K1
        clear hb K0 B0
        go_wp2_with fail
        refine (fits_any t _).mono ?_
        rw [T1.out]
        rintro e w' ⟨rfl, rfl⟩
        go_wp2_with fail
        refine (planBegun_any _ (HM.out.below B1)).mono ?_
        rintro e w2 ⟨rfl, hb⟩
        have B2 := below_trans B1 hb
        have K2 := K1.below hb
        clear y0 y1 y2 y3 y4 y5 y6 y7 y8 y9 y10 y11 y12
        obtain ⟨y0, y1, y2, y3, y4, y5, y6, y7, y8, y9, y10, y11, y12⟩ := pl_cells K2
        clear hb K1 B1
        go_wp2
        go_ret
        exact ⟨rfl, B2⟩
      · cases hu : fitsB u
        · have T1 := Lib.hid ht
          have T2 := Lib.hid hu
          clear HPM HPW HCK ht hu hsd
          have B0 := HB0 2
          have K0 := HK0 2
          obtain ⟨y0, y1, y2, y3, y4, y5, y6, y7, y8, y9, y10, y11, y12⟩ := pl_cells K0
          clear HB0 HK0
          go_enter Tryd.func6, Tryd.ntmps6
          go_wp2_with fail
          refine (HG.out _ B0).mono ?_
          rintro e w1 ⟨rfl, hb⟩
          have B1 := below_trans B0 hb
          have K1 := K0.below hb
          clear y0 y1 y2 y3 y4 y5 y6 y7 y8 y9 y10 y11 y12
          obtain ⟨y0, y1, y2, y3, y4, y5, y6, y7, y8, y9, y10, y11, y12⟩ := pl_cells K1
          clear hb K0 B0
          go_wp2_with fail
          refine (fits_any t _).mono ?_
          rw [T1.out]
          rintro e w' ⟨rfl, rfl⟩
          go_wp2_with fail
          refine (fits_any u _).mono ?_
          rw [T2.out]
          rintro e w' ⟨rfl, rfl⟩
          go_wp2_with fail
          refine (planBegun_any _ (HM.out.below B1)).mono ?_
          rintro e w2 ⟨rfl, hb⟩
          have B2 := below_trans B1 hb
          have K2 := K1.below hb
          clear y0 y1 y2 y3 y4 y5 y6 y7 y8 y9 y10 y11 y12
          obtain ⟨y0, y1, y2, y3, y4, y5, y6, y7, y8, y9, y10, y11, y12⟩ := pl_cells K2
          clear hb K1 B1
          go_wp2
          go_ret
          exact ⟨rfl, B2⟩
        · have T1 := Lib.hid ht
          have T2 := Lib.hid hu
          have HH := HPW.out rfl rfl hu
          have b1 := fits_of ht
          have b2 := fits_of hu
          have HW1 := Lib.hid (fun w' => window_any t size w' (by omega) (by omega) s1 s2)
          have HW2 := Lib.hid (fun w' => window_any u size w' (by omega) (by omega) s1 s2)
          have wb1 := winB t size s1
          have wb2 := winB u size s1
          clear HPM HPW HCK ht hu
          have hh' : g1 < t ∨ (¬ g1 < t ∧ u ≤ mark) ∨ (¬ g1 < t ∧ ¬ u ≤ mark ∧ (winF t size == winF u size) = false ∧ (winF u size == winF t size) = false) := by
            by_cases h1 : g1 < t
            · exact .inl h1
            · by_cases h2 : u ≤ mark
              · exact .inr (.inl ⟨h1, h2⟩)
              · refine .inr (.inr ⟨h1, h2, ?_⟩)
                rcases HH with h | h | h
                · exact absurd h h1
                · exact absurd h h2
                · exact h
          clear HH
          generalize winF t size = wt at HW1 hh' wb1
          generalize winF u size = wu at HW2 hh' wb2
          rcases hsd with rfl | rfl
          · rcases hh' with h1 | ⟨h1, h2⟩ | ⟨h1, h2, h3, h4⟩
            all_goals
              have B0 := HB0 2
              have K0 := HK0 2
              obtain ⟨y0, y1, y2, y3, y4, y5, y6, y7, y8, y9, y10, y11, y12⟩ := pl_cells K0
              clear HB0 HK0
              go_enter Tryd.func6, Tryd.ntmps6
              go_wp2_with fail
              refine (HG.out _ B0).mono ?_
              rintro e w1 ⟨rfl, hb⟩
              have B1 := below_trans B0 hb
              have K1 := K0.below hb
              clear y0 y1 y2 y3 y4 y5 y6 y7 y8 y9 y10 y11 y12
              obtain ⟨y0, y1, y2, y3, y4, y5, y6, y7, y8, y9, y10, y11, y12⟩ := pl_cells K1
              clear hb K0 B0
              go_wp2_with fail
              refine (fits_any t _).mono ?_
              rw [T1.out]
              rintro e w' ⟨rfl, rfl⟩
              go_wp2_with fail
              refine (fits_any u _).mono ?_
              rw [T2.out]
              rintro e w' ⟨rfl, rfl⟩
              go_wp2_with fail
              refine (HW1.out _).mono ?_
              rintro e w' ⟨rfl, rfl⟩
              go_wp2_with fail
              refine (HW2.out _).mono ?_
              rintro e w' ⟨rfl, rfl⟩
              go_wp2_with fail
              refine (planBegun_any _ (HM.out.below B1)).mono ?_
              rintro e w2 ⟨rfl, hb⟩
              have B2 := below_trans B1 hb
              have K2 := K1.below hb
              clear y0 y1 y2 y3 y4 y5 y6 y7 y8 y9 y10 y11 y12
              obtain ⟨y0, y1, y2, y3, y4, y5, y6, y7, y8, y9, y10, y11, y12⟩ := pl_cells K2
              clear hb K1 B1
              go_wp2
              go_ret
              exact ⟨rfl, B2⟩
          · rcases hh' with h1 | ⟨h1, h2⟩ | ⟨h1, h2, h3, h4⟩
            all_goals
              have B0 := HB0 2
              have K0 := HK0 2
              obtain ⟨y0, y1, y2, y3, y4, y5, y6, y7, y8, y9, y10, y11, y12⟩ := pl_cells K0
              clear HB0 HK0
              go_enter Tryd.func6, Tryd.ntmps6
              go_wp2_with fail
              refine (HG.out _ B0).mono ?_
              rintro e w1 ⟨rfl, hb⟩
              have B1 := below_trans B0 hb
              have K1 := K0.below hb
              clear y0 y1 y2 y3 y4 y5 y6 y7 y8 y9 y10 y11 y12
              obtain ⟨y0, y1, y2, y3, y4, y5, y6, y7, y8, y9, y10, y11, y12⟩ := pl_cells K1
              clear hb K0 B0
              go_wp2_with fail
              refine (fits_any t _).mono ?_
              rw [T1.out]
              rintro e w' ⟨rfl, rfl⟩
              go_wp2_with fail
              refine (fits_any u _).mono ?_
              rw [T2.out]
              rintro e w' ⟨rfl, rfl⟩
              go_wp2_with fail
              refine (HW2.out _).mono ?_
              rintro e w' ⟨rfl, rfl⟩
              go_wp2_with fail
              refine (HW1.out _).mono ?_
              rintro e w' ⟨rfl, rfl⟩
              go_wp2_with fail
              refine (planBegun_any _ (HM.out.below B1)).mono ?_
              rintro e w2 ⟨rfl, hb⟩
              have B2 := below_trans B1 hb
              have K2 := K1.below hb
              clear y0 y1 y2 y3 y4 y5 y6 y7 y8 y9 y10 y11 y12
              obtain ⟨y0, y1, y2, y3, y4, y5, y6, y7, y8, y9, y10, y11, y12⟩ := pl_cells K2
              clear hb K1 B1
              go_wp2
              go_ret
              exact ⟨rfl, B2⟩
    · clear HPM HPW HCK hsd
      have B0 := HB0 3
      have K0 := HK0 3
      obtain ⟨y0, y1, y2, y3, y4, y5, y6, y7, y8, y9, y10, y11, y12⟩ := pl_cells K0
      clear HB0 HK0
      go_enter Tryd.func6, Tryd.ntmps6
      go_wp2_with fail
      refine (HG.out _ B0).mono ?_
      rintro e w1 ⟨rfl, hb⟩
      have B1 := below_trans B0 hb
      have K1 := K0.below hb
      clear y0 y1 y2 y3 y4 y5 y6 y7 y8 y9 y10 y11 y12
      obtain ⟨y0, y1, y2, y3, y4, y5, y6, y7, y8, y9, y10, y11, y12⟩ := pl_cells K1
      clear hb K0 B0
      go_wp2_with fail
      refine (planBegun_any _ (HM.out.below B1)).mono ?_
      rintro e w2 ⟨rfl, hb⟩
      have B2 := below_trans B1 hb
      have K2 := K1.below hb
      clear y0 y1 y2 y3 y4 y5 y6 y7 y8 y9 y10 y11 y12
      obtain ⟨y0, y1, y2, y3, y4, y5, y6, y7, y8, y9, y10, y11, y12⟩ := pl_cells K2
      clear hb K1 B1
      go_wp2
      go_ret
      exact ⟨rfl, B2⟩
  · have hb := bneT hg
    clear HQ HPM HPW HCK hg
    have B0 := HB0 kind
    have K0 := HK0 kind
    obtain ⟨y0, y1, y2, y3, y4, y5, y6, y7, y8, y9, y10, y11, y12⟩ := pl_cells K0
    clear HB0 HK0
    go_enter Tryd.func6, Tryd.ntmps6
    go_wp2_with fail
    refine (HG.out _ B0).mono ?_
    rintro e w1 ⟨rfl, hb⟩
    have B1 := below_trans B0 hb
    have K1 := K0.below hb
    clear y0 y1 y2 y3 y4 y5 y6 y7 y8 y9 y10 y11 y12
    obtain ⟨y0, y1, y2, y3, y4, y5, y6, y7, y8, y9, y10, y11, y12⟩ := pl_cells K1
    clear hb K0 B0
    go_wp2_with fail
    refine (planBegun_any _ (HM.out.below B1)).mono ?_
    rintro e w2 ⟨rfl, hb⟩
    have B2 := below_trans B1 hb
    have K2 := K1.below hb
    clear y0 y1 y2 y3 y4 y5 y6 y7 y8 y9 y10 y11 y12
    obtain ⟨y0, y1, y2, y3, y4, y5, y6, y7, y8, y9, y10, y11, y12⟩ := pl_cells K2
    clear hb K1 B1
    go_wp2
    go_ret
    exact ⟨rfl, B2⟩

end Go.Proofs.YtelmlagolmabpaaDoor
