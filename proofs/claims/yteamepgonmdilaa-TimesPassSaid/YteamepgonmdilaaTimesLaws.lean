/-
  The walks of the five laws on times: each returns true, and leaves old memory as it was.
-/
import Derived.Test.YteamepgonmdilaaTimes2
namespace Go.Proofs.Yteamepgonmdilaa.tm
open Go.RowKit

theorem wb64 {a : Int} (h : (Lit.int .i64 a).wf = true) : -9223372036854775808 ≤ a ∧ a ≤ 9223372036854775807 := by
  simpa [Lit.wf, IntKind.min, IntKind.max, IntKind.signed, IntKind.bits] using h

set_option maxHeartbeats 1000000 in
theorem begun_any (w : World) : Calls Try.prog 10 #[] w fun e w' => e = .returned (.bool true) ∧ w = w' := by
  have e1 : winF (-1) 10 = -10 := by decide
  have e2 : meetsF 5 7 (-1) 2 = (true, 0) := by decide
  have e3 : untilF 10 3 = 7 := by decide
  have e4 : fitsB (-1099511627776) = true := by decide
  have e5 : addF 1099511627776 1 = 1099511627776 := by decide
  go_enter Try.func10, Try.ntmps10
  go_wp2_with (first
    | (go_at_call 15; refine (window_any _ _ _ (by omega) (by omega) (by omega) (by omega)).mono ?_; rintro e w' ⟨rfl, rfl⟩)
    | (go_at_call 17; refine (meets_any _ _ _ _ _).mono ?_; rintro e w' ⟨rfl, rfl⟩)
    | (go_at_call 18; refine (until_yes _ _ _ (by decide) (by decide)).mono ?_; rintro e w' ⟨rfl, rfl⟩)
    | (go_at_call 11; refine (fits_any _ _).mono ?_; rintro e w' ⟨rfl, rfl⟩)
    | (go_at_call 13; refine (add_any _ _ _ (by omega) (by omega) (by omega) (by omega)).mono ?_; rintro e w' ⟨rfl, rfl⟩))
  go_ret
  exact ⟨rfl, rfl⟩

set_option maxHeartbeats 400000 in
theorem timesAdd_walk (t d : Int) (w : World) (ht : (Lit.int .i64 t).wf = true) (hd : (Lit.int .i64 d).wf = true) :
    Calls Try.prog 3 #[.int .i64 t, .int .i64 d] w fun e w' => e = .returned (.bool true) ∧ Below w.heap.size w w' := by
  have bt := wb64 ht
  have bd := wb64 hd
  clear ht hd
  go_enter Try.func3, Try.ntmps3
  go_wp2_with (first
    | (go_at_call 10; refine (begun_any _).mono ?_; rintro e w' ⟨rfl, rfl⟩)
    | (go_at_call 11; refine (fits_any _ _).mono ?_; rintro e w' ⟨rfl, rfl⟩)
    | (go_at_call 12; refine (rfits_any _ _).mono ?_; rintro e w' ⟨rfl, rfl⟩)
    | (go_at_call 13; refine (add_any _ _ _ (by omega) (by omega) (by omega) (by omega)).mono ?_; rintro e w' ⟨rfl, rfl⟩)
    | (go_at_call 14; refine (sum_any _ _ _ (by omega) (by omega) (by omega) (by omega)).mono ?_; rintro e w' ⟨rfl, rfl⟩))
  go_ret
  exact ⟨rfl, Below.refl _ _⟩


def windowF (t size : Int) : Int × Int × Int := if fitsB t = true ∧ 1 ≤ size ∧ size ≤ 1099511627776 then (winF t size, winF t size + size, 0) else (0, 0, 3)
def untilE (mark span : Int) : Int × Int := if fitsB mark = true ∧ fitsB span = true then (untilF mark span, 0) else (0, 3)
theorem windowF_yes {t size : Int} (h1 : fitsB t = true) (h2 : 1 ≤ size) (h3 : size ≤ 1099511627776) : windowF t size = (winF t size, winF t size + size, 0) := if_pos ⟨h1, h2, h3⟩
theorem windowF_no {t size : Int} (h : ¬ (fitsB t = true ∧ 1 ≤ size ∧ size ≤ 1099511627776)) : windowF t size = (0, 0, 3) := if_neg h
theorem untilE_yes {mark span : Int} (h1 : fitsB mark = true) (h2 : fitsB span = true) : untilE mark span = (untilF mark span, 0) := if_pos ⟨h1, h2⟩
theorem untilE_no {mark span : Int} (h : ¬ (fitsB mark = true ∧ fitsB span = true)) : untilE mark span = (0, 3) := if_neg h
theorem window_all (t size : Int) (w : World) :
    Calls Try.prog 15 #[.int .i64 t, .int .i64 size] w fun e w' => e = .returned (.tuple #[.int .i64 (windowF t size).1, .int .i64 (windowF t size).2.1, .int .i64 (windowF t size).2.2]) ∧ w = w' := by
  by_cases h : fitsB t = true ∧ 1 ≤ size ∧ size ≤ 1099511627776
  · rw [windowF_yes h.1 h.2.1 h.2.2]
    exact window_any t size w (fits_of h.1).1 (fits_of h.1).2 h.2.1 h.2.2
  · rw [windowF_no h]
    refine window_no t size w ?_
    by_cases h1 : fitsB t = true
    · refine .inr ?_
      have : ¬ (1 ≤ size ∧ size ≤ 1099511627776) := fun hh => h ⟨h1, hh⟩
      omega
    · exact .inl (by simpa using h1)
theorem until_all (mark span : Int) (w : World) :
    Calls Try.prog 18 #[.int .i64 mark, .int .i64 span] w fun e w' => e = .returned (.tuple #[.int .i64 (untilE mark span).1, .int .i64 (untilE mark span).2]) ∧ w = w' := by
  by_cases h : fitsB mark = true ∧ fitsB span = true
  · rw [untilE_yes h.1 h.2]
    exact until_yes mark span w h.1 h.2
  · rw [untilE_no h]
    refine until_no mark span w ?_
    cases h1 : fitsB mark
    · exact .inl rfl
    · cases h2 : fitsB span
      · exact .inr rfl
      · exact absurd ⟨h1, h2⟩ h

theorem win_bounds (t size : Int) (ht : -1099511627776 ≤ t) (ht' : t ≤ 1099511627776) (hs : 1 ≤ size) (hs' : size ≤ 1099511627776) :
    -2199023255552 ≤ winF t size ∧ winF t size ≤ t ∧ t < winF t size + size := by
  have h2 := mod_facts t size hs
  unfold winF
  omega

set_option maxHeartbeats 400000 in
theorem timesWindow_walk (t size : Int) (w : World) :
    Calls Try.prog 4 #[.int .i64 t, .int .i64 size] w fun e w' => e = .returned (.bool true) ∧ Below w.heap.size w w' := by
  by_cases h : fitsB t = true ∧ 1 ≤ size ∧ size ≤ 1099511627776
  · have hw := windowF_yes h.1 h.2.1 h.2.2
    obtain ⟨h1, h2, h3⟩ := h
    have hb := fits_of h1
    have hwb := win_bounds t size hb.1 hb.2 h2 h3
    go_enter Try.func4, Try.ntmps4
    go_wp2_with (first
      | (go_at_call 15; refine (window_all _ _ _).mono ?_; rintro e w' ⟨rfl, rfl⟩)
      | (go_at_call 10; refine (begun_any _).mono ?_; rintro e w' ⟨rfl, rfl⟩)
      | (go_at_call 12; refine (rfits_any _ _).mono ?_; rintro e w' ⟨rfl, rfl⟩)
      | (go_at_call 16; refine (start_any _ _ _ (by omega) (by omega) (by omega) (by omega)).mono ?_; rintro e w' ⟨rfl, rfl⟩))
    go_ret
    exact ⟨rfl, Below.refl _ _⟩
  · have hw := windowF_no h
    have h' : fitsB t = false ∨ (fitsB t = true ∧ size < 1) ∨ (fitsB t = true ∧ 1099511627776 < size) := by
      cases h1 : fitsB t
      · exact .inl rfl
      · have : ¬ (1 ≤ size ∧ size ≤ 1099511627776) := fun hh => h ⟨h1, hh⟩
        simp
        omega
    clear h
    rcases h' with h1 | ⟨h1, h2⟩ | ⟨h1, h2⟩
    all_goals
      go_enter Try.func4, Try.ntmps4
      go_wp2_with (first
        | (go_at_call 15; refine (window_all _ _ _).mono ?_; rintro e w' ⟨rfl, rfl⟩)
        | (go_at_call 10; refine (begun_any _).mono ?_; rintro e w' ⟨rfl, rfl⟩)
        | (go_at_call 12; refine (rfits_any _ _).mono ?_; rintro e w' ⟨rfl, rfl⟩))
      go_ret
      exact ⟨rfl, Below.refl _ _⟩

set_option maxHeartbeats 1000000 in
theorem timesMeets_walk (l r low high : Int) (w : World) :
    Calls Try.prog 5 #[.int .i64 l, .int .i64 r, .int .i64 low, .int .i64 high] w fun e w' => e = .returned (.bool true) ∧ Below w.heap.size w w' := by
  have H : (fitsB l = false ∧ meetsF l r low high = (false, 3)) ∨ (fitsB l = true ∧ fitsB r = false ∧ meetsF l r low high = (false, 3)) ∨ (fitsB l = true ∧ fitsB r = true ∧ fitsB low = false ∧ meetsF l r low high = (false, 3)) ∨
      (fitsB l = true ∧ fitsB r = true ∧ fitsB low = true ∧ fitsB high = false ∧ meetsF l r low high = (false, 3)) ∨
      (fitsB l = true ∧ fitsB r = true ∧ fitsB low = true ∧ fitsB high = true ∧ high < low ∧ meetsF l r low high = (false, 1)) ∨
      (fitsB l = true ∧ fitsB r = true ∧ fitsB low = true ∧ fitsB high = true ∧ low ≤ high ∧ meetsF l r low high = (decide (l + low ≤ r) && decide (r ≤ l + high), 0)) := by
    cases h1 : fitsB l
    · simp [meets_l h1]
    · cases h2 : fitsB r
      · simp [meets_r h2]
      · cases h3 : fitsB low
        · simp [meets_low h3]
        · cases h4 : fitsB high
          · simp [meets_high h4]
          · by_cases h5 : high < low
            · simp [meets_form h1 h2 h3 h4 h5, h5]
            · have h6 : low ≤ high := by omega
              rw [meets_ok h1 h2 h3 h4 h6]
              simp [h6]
  rcases H with ⟨h1, h⟩ | ⟨h1, h2, h⟩ | ⟨h1, h2, h3, h⟩ | ⟨h1, h2, h3, h4, h⟩ | ⟨h1, h2, h3, h4, h5, h⟩ | ⟨h1, h2, h3, h4, h5, h⟩
  case inr.inr.inr.inr.inr =>
    have b1 := fits_of h1
    have b2 := fits_of h2
    have b3 := fits_of h3
    have b4 := fits_of h4
    have h6 : (low ≤ r - l ∧ l + low ≤ r ∧ r - l ≤ high ∧ r ≤ l + high) ∨ (r - l < low ∧ r < l + low) ∨ (low ≤ r - l ∧ l + low ≤ r ∧ high < r - l ∧ l + high < r) := by omega
    rcases h6 with ⟨a1, a2, a3, a4⟩ | ⟨a1, a2⟩ | ⟨a1, a2, a3, a4⟩
    all_goals
      go_enter Try.func5, Try.ntmps5
      go_wp2_with (first
        | (go_at_call 17; refine (meets_any _ _ _ _ _).mono ?_; rintro e w' ⟨rfl, rfl⟩)
        | (go_at_call 10; refine (begun_any _).mono ?_; rintro e w' ⟨rfl, rfl⟩)
        | (go_at_call 12; refine (rfits_any _ _).mono ?_; rintro e w' ⟨rfl, rfl⟩))
      go_ret
      refine ⟨ret_bool ?_, Below.refl _ _⟩
      simp <;> omega
  all_goals
    go_enter Try.func5, Try.ntmps5
    go_wp2_with (first
      | (go_at_call 17; refine (meets_any _ _ _ _ _).mono ?_; rintro e w' ⟨rfl, rfl⟩)
      | (go_at_call 10; refine (begun_any _).mono ?_; rintro e w' ⟨rfl, rfl⟩)
      | (go_at_call 12; refine (rfits_any _ _).mono ?_; rintro e w' ⟨rfl, rfl⟩))
    go_ret
    exact ⟨rfl, Below.refl _ _⟩

set_option maxHeartbeats 400000 in
theorem timesUntil_walk (mark span : Int) (w : World) :
    Calls Try.prog 6 #[.int .i64 mark, .int .i64 span] w fun e w' => e = .returned (.bool true) ∧ Below w.heap.size w w' := by
  cases h1 : fitsB mark
  · have h := untilE_no (mark := mark) (span := span) (by simp [h1])
    go_enter Try.func6, Try.ntmps6
    go_wp2_with (first
      | (go_at_call 18; refine (until_all _ _ _).mono ?_; rintro e w' ⟨rfl, rfl⟩)
      | (go_at_call 10; refine (begun_any _).mono ?_; rintro e w' ⟨rfl, rfl⟩)
      | (go_at_call 12; refine (rfits_any _ _).mono ?_; rintro e w' ⟨rfl, rfl⟩))
    go_ret
    exact ⟨rfl, Below.refl _ _⟩
  · cases h2 : fitsB span
    · have h := untilE_no (mark := mark) (span := span) (by simp [h2])
      go_enter Try.func6, Try.ntmps6
      go_wp2_with (first
        | (go_at_call 18; refine (until_all _ _ _).mono ?_; rintro e w' ⟨rfl, rfl⟩)
        | (go_at_call 10; refine (begun_any _).mono ?_; rintro e w' ⟨rfl, rfl⟩)
        | (go_at_call 12; refine (rfits_any _ _).mono ?_; rintro e w' ⟨rfl, rfl⟩))
      go_ret
      exact ⟨rfl, Below.refl _ _⟩
    · have h := untilE_yes (mark := mark) (span := span) h1 h2
      have H1 := Lib.hid h1
      have H2 := Lib.hid h2
      go_enter Try.func6, Try.ntmps6
      go_wp2_with (first
        | (go_at_call 18; refine (until_all _ _ _).mono ?_; rintro e w' ⟨rfl, rfl⟩)
        | (go_at_call 19; refine (runtil_any _ _ _ H1.out H2.out).mono ?_; rintro e w' ⟨rfl, rfl⟩)
        | (go_at_call 10; refine (begun_any _).mono ?_; rintro e w' ⟨rfl, rfl⟩)
        | (go_at_call 12; refine (rfits_any _ _).mono ?_; rintro e w' ⟨rfl, rfl⟩))
      go_ret
      exact ⟨rfl, Below.refl _ _⟩

end Go.Proofs.Yteamepgonmdilaa.tm
