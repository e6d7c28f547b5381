/-
  The walk of the law TimesPass: it returns true, and leaves old memory as it was.
-/
import Derived.Test.YteamepgonmdilaaTimesLaws
namespace Go.Proofs.Yteamepgonmdilaa.tm
open Go.RowKit

theorem meets_cases (l r low high : Int) : ((meetsF l r low high).2 ≠ 0) ∨
    (fitsB l = true ∧ fitsB r = true ∧ fitsB low = true ∧ fitsB high = true ∧ meetsF l r low high = (decide (l + low ≤ r) && decide (r ≤ l + high), 0)) := by
  unfold meetsF
  cases h1 : fitsB l <;> cases h2 : fitsB r <;> cases h3 : fitsB low <;> cases h4 : fitsB high <;> simp
  split
  · simp
  · simp; omega

/-- What the first test of the law may come to: the first part of it that says no. -/
theorem pass_first (mark span t u low : Int) :
    ((untilE mark span).2 == 0) = false ∨
    (((untilE mark span).2 == 0) = true ∧ ((meetsF t u low span).2 == 0) = false) ∨
    (((untilE mark span).2 == 0) = true ∧ ((meetsF t u low span).2 == 0) = true ∧ (untilE mark span).1 < t) ∨
    (((untilE mark span).2 == 0) = true ∧ ((meetsF t u low span).2 == 0) = true ∧ t ≤ (untilE mark span).1 ∧ u ≤ mark) ∨
    (((untilE mark span).2 == 0) = true ∧ ((meetsF t u low span).2 == 0) = true ∧ t ≤ (untilE mark span).1 ∧ mark < u ∧ (meetsF t u low span).1 = false) := by
  by_cases h : fitsB mark = true ∧ fitsB span = true
  · rw [untilE_yes h.1 h.2]
    refine .inr ?_
    have hm := fits_of h.1
    rcases meets_cases t u low span with h1 | ⟨h1, h2, h3, h4, h5⟩
    · exact .inl ⟨rfl, by simpa using h1⟩
    · refine .inr ?_
      have hu := fits_of h2
      rw [h5]
      by_cases a : untilF mark span < t
      · exact .inl ⟨rfl, rfl, a⟩
      · by_cases b : u ≤ mark
        · exact .inr (.inl ⟨rfl, rfl, by simp only; omega, b⟩)
        · refine .inr (.inr ⟨rfl, rfl, by simp only; omega, by omega, ?_⟩)
          unfold untilF at a
          simp
          split at a <;> omega
  · rw [untilE_no h]
    exact .inl rfl

/-- What the second part may come to. -/
theorem pass_second (t u size : Int) :
    ((windowF t size).2.2 == 0) = false ∨
    (((windowF t size).2.2 == 0) = true ∧ ((windowF u size).2.2 == 0) = false) ∨
    (windowF t size = (winF t size, winF t size + size, 0) ∧ windowF u size = (winF u size, winF u size + size, 0) ∧
      1 ≤ size ∧ size ≤ 1099511627776 ∧ -2199023255552 ≤ winF t size ∧ winF t size ≤ 1099511627776 ∧ -2199023255552 ≤ winF u size ∧ winF u size ≤ 1099511627776 ∧
      winF t size ≤ t ∧ t < winF t size + size ∧
      ((u < winF t size ∧ (winF u size == winF t size) = false) ∨ (winF t size ≤ u ∧ winF t size + size ≤ u ∧ (winF u size == winF t size) = false) ∨
        (winF t size ≤ u ∧ u < winF t size + size ∧ (winF u size == winF t size) = true))) := by
  by_cases h : fitsB t = true ∧ 1 ≤ size ∧ size ≤ 1099511627776
  · refine .inr ?_
    rw [windowF_yes h.1 h.2.1 h.2.2]
    by_cases h' : fitsB u = true ∧ 1 ≤ size ∧ size ≤ 1099511627776
    · refine .inr ?_
      have b1 := fits_of h.1
      have b2 := fits_of h'.1
      have c1 := win_bounds t size b1.1 b1.2 h.2.1 h.2.2
      have c2 := win_bounds u size b2.1 b2.2 h.2.1 h.2.2
      rw [windowF_yes h'.1 h'.2.1 h'.2.2]
      refine ⟨rfl, rfl, h.2.1, h.2.2, c1.1, by omega, c2.1, by omega, c1.2.1, c1.2.2, ?_⟩
      by_cases a : u < winF t size
      · exact .inl ⟨a, by simp; omega⟩
      · by_cases b : winF t size + size ≤ u
        · exact .inr (.inl ⟨by omega, b, by simp; omega⟩)
        · refine .inr (.inr ⟨by omega, by omega, ?_⟩)
          simp only [beq_iff_eq]
          have hd : ∃ a b : Int, winF t size = size * a ∧ winF u size = size * b := by
            refine ⟨t / size, u / size, ?_, ?_⟩
            · have := Int.emod_add_mul_ediv t size; unfold winF; omega
            · have := Int.emod_add_mul_ediv u size; unfold winF; omega
          obtain ⟨x, y, hx, hy⟩ := hd
          have h1 : size * y < size * (x + 1) := by rw [Int.mul_add, ← hx, ← hy]; omega
          have h2 : size * x < size * (y + 1) := by rw [Int.mul_add, ← hx, ← hy]; omega
          have h3 := Int.lt_of_mul_lt_mul_left h1 (by omega)
          have h4 := Int.lt_of_mul_lt_mul_left h2 (by omega)
          have : x = y := by omega
          rw [hx, hy, this]
    · rw [windowF_no h']
      exact .inl ⟨rfl, rfl⟩
  · rw [windowF_no h]
    exact .inl rfl

set_option maxHeartbeats 4000000 in
theorem timesPass_walk (mark span t u low size : Int) (w : World) :
    Calls Try.prog 7 #[.int .i64 mark, .int .i64 span, .int .i64 t, .int .i64 u, .int .i64 low, .int .i64 size] w fun e w' => e = .returned (.bool true) ∧ Below w.heap.size w w' := by
  rcases pass_first mark span t u low with h1 | ⟨h1, h2⟩ | ⟨h1, h2, h3⟩ | ⟨h1, h2, h3, h4⟩ | ⟨h1, h2, h3, h4, h5⟩
  all_goals
    rcases pass_second t u size with k1 | ⟨k1, k2⟩ | ⟨k1, k2, s1, s2, s3, s4, s5, s6, s7, s8, ⟨s9, s10⟩ | ⟨s9, s10, s11⟩ | ⟨s9, s10, s11⟩⟩
    all_goals
      go_enter Try.func7, Try.ntmps7
      go_wp2_with (first
        | (go_at_call 18; refine (until_all _ _ _).mono ?_; rintro e w' ⟨rfl, rfl⟩)
        | (go_at_call 17; refine (meets_any _ _ _ _ _).mono ?_; rintro e w' ⟨rfl, rfl⟩)
        | (go_at_call 15; refine (window_all _ _ _).mono ?_; rintro e w' ⟨rfl, rfl⟩)
        | (go_at_call 10; refine (begun_any _).mono ?_; rintro e w' ⟨rfl, rfl⟩))
      all_goals
        go_ret
        refine ⟨ret_bool ?_, Below.refl _ _⟩
        first | rfl | (simp <;> omega)

end Go.Proofs.Yteamepgonmdilaa.tm
