/-
  The contracts of package times and of its reference: what each function returns, as a plain function of its arguments; each leaves old memory as it was.
-/
import Derived.Test.YtelmlagolmabpaaDoorBase
namespace Go.Proofs.YtelmlagolmabpaaDoor.tm
open Go.RowKit

def fitsB (t : Int) : Bool := decide (-1099511627776 ≤ t ∧ t ≤ 1099511627776)
theorem fits_yes {t : Int} (h1 : -1099511627776 ≤ t) (h2 : t ≤ 1099511627776) : fitsB t = true := by simp [fitsB, h1, h2]
theorem fits_lo {t : Int} (h : t < -1099511627776) : fitsB t = false := by simp [fitsB]; omega
theorem fits_hi {t : Int} (h : 1099511627776 < t) : fitsB t = false := by simp [fitsB]; omega
theorem fits_of {t : Int} (h : fitsB t = true) : -1099511627776 ≤ t ∧ t ≤ 1099511627776 := by simpa [fitsB] using h

set_option maxHeartbeats 400000 in
theorem fits_any (t : Int) (w : World) :
    Calls Tryd.prog 27 #[.int .i64 t] w fun e w' => e = .returned (.bool (fitsB t)) ∧ w = w' := by
  by_cases h1 : -1099511627776 ≤ t
  · by_cases h2 : t ≤ 1099511627776
    · go_enter Tryd.func27, Tryd.ntmps27
      go_wp2
      go_ret
      exact ⟨ret_bool (fits_yes h1 h2).symm, rfl⟩
    · go_enter Tryd.func27, Tryd.ntmps27
      go_wp2
      go_ret
      exact ⟨ret_bool (fits_hi (by omega)).symm, rfl⟩
  · go_enter Tryd.func27, Tryd.ntmps27
    go_wp2
    go_ret
    exact ⟨ret_bool (fits_lo (by omega)).symm, rfl⟩

set_option maxHeartbeats 400000 in
theorem rfits_any (t : Int) (w : World) :
    Calls Tryd.prog 25 #[.int .i64 t] w fun e w' => e = .returned (.bool (fitsB t)) ∧ w = w' := by
  by_cases h1 : -1099511627776 ≤ t
  · by_cases h2 : t ≤ 1099511627776
    · go_enter Tryd.func25, Tryd.ntmps25
      go_wp2
      go_ret
      exact ⟨ret_bool (fits_yes h1 h2).symm, rfl⟩
    · go_enter Tryd.func25, Tryd.ntmps25
      go_wp2
      go_ret
      exact ⟨ret_bool (fits_hi (by omega)).symm, rfl⟩
  · go_enter Tryd.func25, Tryd.ntmps25
    go_wp2
    go_ret
    exact ⟨ret_bool (fits_lo (by omega)).symm, rfl⟩

/-- The sum without bounds, brought between the bounds. -/
def addF (t d : Int) : Int := max (-1099511627776) (min (t + d) 1099511627776)


def winF (t size : Int) : Int := t - t % size
theorem tmod_facts (t size : Int) (hs : 1 ≤ size) : -size < t.tmod size ∧ t.tmod size < size := by
  have h1 := Int.tmod_lt_of_pos t (show 0 < size by omega)
  have h2 := Int.lt_tmod_of_pos t (show 0 < size by omega)
  omega
theorem mod_facts (t size : Int) (hs : 1 ≤ size) : 0 ≤ t % size ∧ t % size < size :=
  ⟨Int.emod_nonneg _ (by omega), Int.emod_lt_of_pos _ (by omega)⟩
theorem tmod_mod (t size : Int) (hs : 1 ≤ size) : t.tmod size % size = t % size := by
  rw [Int.tmod_eq_emod]
  split
  · simp
  · have : (size.natAbs : Int) = size := by omega
    rw [this, Int.sub_emod]
    simp

set_option maxHeartbeats 400000 in
theorem window_any (t size : Int) (w : World) (ht : -1099511627776 ≤ t) (ht' : t ≤ 1099511627776) (hs : 1 ≤ size) (hs' : size ≤ 1099511627776) :
    Calls Tryd.prog 29 #[.int .i64 t, .int .i64 size] w fun e w' => e = .returned (.tuple #[.int .i64 (winF t size), .int .i64 (winF t size + size), .int .i64 0]) ∧ w = w' := by
  have h1 := tmod_facts t size hs
  have h2 := mod_facts (t.tmod size) size hs
  have h3 := Lib.hid (tmod_mod t size hs)
  obtain ⟨h1a, h1b⟩ := h1
  obtain ⟨h2a, h2b⟩ := h2
  have hf := fits_yes ht ht'
  go_enter Tryd.func29, Tryd.ntmps29
  go_wp2_with (go_at_call 27; refine (fits_any _ _).mono ?_; rintro e w' ⟨rfl, rfl⟩)
  go_ret3
  exact ⟨by rw [h3.out]; rfl, rfl⟩

set_option maxHeartbeats 400000 in
theorem window_no (t size : Int) (w : World) (h : fitsB t = false ∨ size < 1 ∨ 1099511627776 < size) :
    Calls Tryd.prog 29 #[.int .i64 t, .int .i64 size] w fun e w' => e = .returned (.tuple #[.int .i64 0, .int .i64 0, .int .i64 3]) ∧ w = w' := by
  by_cases hf : fitsB t = true
  · by_cases h1 : size < 1
    · clear h
      go_enter Tryd.func29, Tryd.ntmps29
      go_wp2_with (go_at_call 27; refine (fits_any _ _).mono ?_; rintro e w' ⟨rfl, rfl⟩)
      go_ret3
      exact ⟨rfl, rfl⟩
    · have h2 : 1099511627776 < size := by simp [hf] at h; omega
      clear h
      go_enter Tryd.func29, Tryd.ntmps29
      go_wp2_with (go_at_call 27; refine (fits_any _ _).mono ?_; rintro e w' ⟨rfl, rfl⟩)
      go_ret3
      exact ⟨rfl, rfl⟩
  · have hf : fitsB t = false := by simpa using hf
    clear h
    go_enter Tryd.func29, Tryd.ntmps29
    go_wp2_with (go_at_call 27; refine (fits_any _ _).mono ?_; rintro e w' ⟨rfl, rfl⟩)
    go_ret3
    exact ⟨rfl, rfl⟩

theorem start_facts (t size : Int) (ht : -1099511627776 ≤ t) (ht' : t ≤ 1099511627776) (hs : 1 ≤ size) (hs' : size ≤ 1099511627776) :
    -1099511627776 ≤ t.tdiv size ∧ t.tdiv size ≤ 1099511627776 ∧ -2199023255552 ≤ t.tdiv size * size ∧ t.tdiv size * size ≤ 2199023255552 ∧
    (if t < t.tdiv size * size then t.tdiv size * size - size else t.tdiv size * size) = winF t size := by
  have h1 := tmod_facts t size hs
  have h2 := mod_facts t size hs
  have e := Int.tmod_add_mul_tdiv t size
  have e2 := Int.emod_add_mul_ediv t size
  have hc : size * t.tdiv size = t.tdiv size * size := Int.mul_comm _ _
  have hb : -1099511627776 ≤ t.tdiv size ∧ t.tdiv size ≤ 1099511627776 := by
    have h := Int.natAbs_tdiv_le_natAbs t size
    omega
  refine ⟨hb.1, hb.2, by omega, by omega, ?_⟩
  unfold winF
  have ht := Int.tmod_eq_emod (a := t) (b := size)
  split
  · rw [← hc]
    split at ht <;> omega
  · rw [← hc]
    split at ht <;> omega

set_option maxHeartbeats 400000 in
theorem start_any (t size : Int) (w : World) (ht : -1099511627776 ≤ t) (ht' : t ≤ 1099511627776) (hs : 1 ≤ size) (hs' : size ≤ 1099511627776) :
    Calls Tryd.prog 70 #[.int .i64 t, .int .i64 size] w fun e w' => e = .returned (.int .i64 (winF t size)) ∧ w = w' := by
  obtain ⟨h1, h2, h3, h4, h5⟩ := start_facts t size ht ht' hs hs'
  by_cases hc : t < t.tdiv size * size
  · rw [if_pos hc] at h5
    have H5 := Lib.hid h5
    clear h5
    go_enter Tryd.func70, Tryd.ntmps70
    go_wp2
    go_ret
    exact ⟨ret_int H5.out, rfl⟩
  · rw [if_neg hc] at h5
    have H5 := Lib.hid h5
    clear h5
    go_enter Tryd.func70, Tryd.ntmps70
    go_wp2
    go_ret
    exact ⟨ret_int H5.out, rfl⟩

end Go.Proofs.YtelmlagolmabpaaDoor.tm
