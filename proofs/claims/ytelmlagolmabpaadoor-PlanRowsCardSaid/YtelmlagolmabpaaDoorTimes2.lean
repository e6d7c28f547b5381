/-
  The contracts of times.Meets, times.Until and their reference.
-/
import Derived.Test.YtelmlagolmabpaaDoorTimes
namespace Go.Proofs.YtelmlagolmabpaaDoor.tm
open Go.RowKit

def meetsF (l r low high : Int) : Bool × Int :=
  if fitsB l && fitsB r && fitsB low && fitsB high then (if high < low then (false, 1) else (decide (l + low ≤ r) && decide (r ≤ l + high), 0)) else (false, 3)
theorem ret_two {a a' : Bool} {b b' : Int} (h : (a, b) = (a', b')) : Ending.returned (.tuple #[.bool a, .int .i64 b]) = .returned (.tuple #[.bool a', .int .i64 b']) := by
  obtain ⟨rfl, rfl⟩ := Prod.mk.inj h; rfl
theorem meets_l {l r low high : Int} (h : fitsB l = false) : meetsF l r low high = (false, 3) := by simp [meetsF, h]
theorem meets_r {l r low high : Int} (h : fitsB r = false) : meetsF l r low high = (false, 3) := by simp [meetsF, h]
theorem meets_low {l r low high : Int} (h : fitsB low = false) : meetsF l r low high = (false, 3) := by simp [meetsF, h]
theorem meets_high {l r low high : Int} (h : fitsB high = false) : meetsF l r low high = (false, 3) := by simp [meetsF, h]
theorem meets_form {l r low high : Int} (h1 : fitsB l = true) (h2 : fitsB r = true) (h3 : fitsB low = true) (h4 : fitsB high = true) (h : high < low) : meetsF l r low high = (false, 1) := by simp [meetsF, h1, h2, h3, h4, h]
theorem meets_ok {l r low high : Int} (h1 : fitsB l = true) (h2 : fitsB r = true) (h3 : fitsB low = true) (h4 : fitsB high = true) (h : low ≤ high) : meetsF l r low high = (decide (l + low ≤ r) && decide (r ≤ l + high), 0) := by
  simp [meetsF, h1, h2, h3, h4]; omega

set_option maxHeartbeats 1000000 in
set_option maxRecDepth 100000 in
theorem meets_any (l r low high : Int) (w : World) :
    Calls Tryd.prog 28 #[.int .i64 l, .int .i64 r, .int .i64 low, .int .i64 high] w fun e w' => e = .returned (.tuple #[.bool (meetsF l r low high).1, .int .i64 (meetsF l r low high).2]) ∧ w = w' := by
  have i0 : ∀ w : World, (Instr.index 87 (.agg #[.int .i64 l, .int .i64 r, .int .i64 low, .int .i64 high]) (.int .i64 0)).run Tryd.prog w = .ok (.int .i64 l) w := fun _ => by kernel_rfl
  have i1 : ∀ w : World, (Instr.index 87 (.agg #[.int .i64 l, .int .i64 r, .int .i64 low, .int .i64 high]) (.int .i64 1)).run Tryd.prog w = .ok (.int .i64 r) w := fun _ => by kernel_rfl
  have i2 : ∀ w : World, (Instr.index 87 (.agg #[.int .i64 l, .int .i64 r, .int .i64 low, .int .i64 high]) (.int .i64 2)).run Tryd.prog w = .ok (.int .i64 low) w := fun _ => by kernel_rfl
  have i3 : ∀ w : World, (Instr.index 87 (.agg #[.int .i64 l, .int .i64 r, .int .i64 low, .int .i64 high]) (.int .i64 3)).run Tryd.prog w = .ok (.int .i64 high) w := fun _ => by kernel_rfl
  go_enter Tryd.func28, Tryd.ntmps28
  go_wp2
  go_loop [11, 17] (fun _ i => ∃ k : Nat, k ≤ 4 ∧ i = .int .i64 k ∧ Hid ((0 < k → fitsB l = true) ∧ (1 < k → fitsB r = true) ∧ (2 < k → fitsB low = true) ∧ (3 < k → fitsB high = true))) (fun _ i => 4 - (intOf i).toNat)
  case atStart => exact ⟨0, by omega, rfl, ⟨fun h => absurd h (by omega), fun h => absurd h (by omega), fun h => absurd h (by omega), fun h => absurd h (by omega)⟩⟩
  case round =>
    obtain ⟨k, hk, rfl, H⟩ := hrel
    have hk5 : k = 0 ∨ k = 1 ∨ k = 2 ∨ k = 3 ∨ k = 4 := by omega
    rcases hk5 with rfl | rfl | rfl | rfl | rfl
    · cases hf : fitsB l
      · go_wp2_with (go_at_call 27; refine (fits_any _ _).mono ?_; rintro e w' ⟨rfl, rfl⟩)
        go_ret2
        exact ⟨by rw [meets_l hf]; rfl, rfl⟩
      · go_wp2_with (go_at_call 27; refine (fits_any _ _).mono ?_; rintro e w' ⟨rfl, rfl⟩)
        go_round
        case rel => exact ⟨1, by omega, rfl, ⟨fun _ => (by first | exact hf | trivial), fun h => absurd h (by omega), fun h => absurd h (by omega), fun h => absurd h (by omega)⟩⟩
        case measure => simp [intOf]
    · cases hf : fitsB r
      · go_wp2_with (go_at_call 27; refine (fits_any _ _).mono ?_; rintro e w' ⟨rfl, rfl⟩)
        go_ret2
        exact ⟨by rw [meets_r hf]; rfl, rfl⟩
      · go_wp2_with (go_at_call 27; refine (fits_any _ _).mono ?_; rintro e w' ⟨rfl, rfl⟩)
        go_round
        case rel => exact ⟨2, by omega, rfl, ⟨fun _ => H.out.1 (by omega), fun _ => (by first | exact hf | trivial), fun h => absurd h (by omega), fun h => absurd h (by omega)⟩⟩
        case measure => simp [intOf]
    · cases hf : fitsB low
      · go_wp2_with (go_at_call 27; refine (fits_any _ _).mono ?_; rintro e w' ⟨rfl, rfl⟩)
        go_ret2
        exact ⟨by rw [meets_low hf]; rfl, rfl⟩
      · go_wp2_with (go_at_call 27; refine (fits_any _ _).mono ?_; rintro e w' ⟨rfl, rfl⟩)
        go_round
        case rel => exact ⟨3, by omega, rfl, ⟨fun _ => H.out.1 (by omega), fun _ => H.out.2.1 (by omega), fun _ => (by first | exact hf | trivial), fun h => absurd h (by omega)⟩⟩
        case measure => simp [intOf]
    · cases hf : fitsB high
      · go_wp2_with (go_at_call 27; refine (fits_any _ _).mono ?_; rintro e w' ⟨rfl, rfl⟩)
        go_ret2
        exact ⟨by rw [meets_high hf]; rfl, rfl⟩
      · go_wp2_with (go_at_call 27; refine (fits_any _ _).mono ?_; rintro e w' ⟨rfl, rfl⟩)
        go_round
        case rel => exact ⟨4, by omega, rfl, ⟨fun _ => H.out.1 (by omega), fun _ => H.out.2.1 (by omega), fun _ => H.out.2.2.1 (by omega), fun _ => (by first | exact hf | trivial)⟩⟩
        case measure => simp [intOf]
    · have f1 := H.out.1 (by omega)
      have f2 := H.out.2.1 (by omega)
      have f3 := H.out.2.2.1 (by omega)
      have f4 := H.out.2.2.2 (by omega)
      have b1 := fits_of f1
      have b2 := fits_of f2
      have b3 := fits_of f3
      have b4 := fits_of f4
      have F1 := Lib.hid f1
      have F2 := Lib.hid f2
      have F3 := Lib.hid f3
      have F4 := Lib.hid f4
      clear f1 f2 f3 f4 H i0 i1 i2 i3
      by_cases hc : high < low
      · go_wp2
        go_ret2
        exact ⟨by rw [meets_form F1.out F2.out F3.out F4.out hc]; rfl, rfl⟩
      · by_cases hd : l + low ≤ r
        · go_wp2
          go_ret2
          exact ⟨by rw [meets_ok F1.out F2.out F3.out F4.out (by omega)]; simp [hd], rfl⟩
        · go_wp2
          go_ret2
          exact ⟨by rw [meets_ok F1.out F2.out F3.out F4.out (by omega)]; simp; omega, rfl⟩

def untilF (mark span : Int) : Int := if mark = 1099511627776 then 1099511627776 else mark - span

set_option maxHeartbeats 400000 in
theorem until_no (mark span : Int) (w : World) (h : fitsB mark = false ∨ fitsB span = false) :
    Calls Tryd.prog 68 #[.int .i64 mark, .int .i64 span] w fun e w' => e = .returned (.tuple #[.int .i64 0, .int .i64 3]) ∧ w = w' := by
  cases h1 : fitsB mark
  · clear h
    go_enter Tryd.func68, Tryd.ntmps68
    go_wp2_with (go_at_call 27; refine (fits_any _ _).mono ?_; rintro e w' ⟨rfl, rfl⟩)
    go_ret2
    exact ⟨rfl, rfl⟩
  · have h2 : fitsB span = false := by simpa [h1] using h
    clear h
    go_enter Tryd.func68, Tryd.ntmps68
    go_wp2_with fail
    refine (fits_any _ _).mono ?_
    rintro e w' ⟨rfl, rfl⟩
    go_wp2_with fail
    refine (fits_any _ _).mono ?_
    rintro e w' ⟨rfl, rfl⟩
    go_wp2
    go_ret2
    exact ⟨rfl, rfl⟩

set_option maxHeartbeats 400000 in
theorem until_yes (mark span : Int) (w : World) (h1 : fitsB mark = true) (h2 : fitsB span = true) :
    Calls Tryd.prog 68 #[.int .i64 mark, .int .i64 span] w fun e w' => e = .returned (.tuple #[.int .i64 (untilF mark span), .int .i64 0]) ∧ w = w' := by
  have b1 := fits_of h1
  have b2 := fits_of h2
  by_cases hm : mark = 1099511627776
  · subst hm
    go_enter Tryd.func68, Tryd.ntmps68
    go_wp2_with fail
    refine (fits_any _ _).mono ?_
    rintro e w' ⟨rfl, rfl⟩
    go_wp2_with fail
    refine (fits_any _ _).mono ?_
    rintro e w' ⟨rfl, rfl⟩
    go_wp2
    go_ret2
    exact ⟨rfl, rfl⟩
  · have e1 : Hid (untilF mark span = mark - span) := by simp [untilF, hm, Hid]
    have hm' : mark < 1099511627776 := by omega
    clear hm
    go_enter Tryd.func68, Tryd.ntmps68
    go_wp2_with fail
    refine (fits_any _ _).mono ?_
    rintro e w' ⟨rfl, rfl⟩
    go_wp2_with fail
    refine (fits_any _ _).mono ?_
    rintro e w' ⟨rfl, rfl⟩
    go_wp2
    go_ret2
    exact ⟨by rw [e1.out]; rfl, rfl⟩

set_option maxHeartbeats 400000 in
theorem runtil_any (mark span : Int) (w : World) (h1 : fitsB mark = true) (h2 : fitsB span = true) :
    Calls Tryd.prog 69 #[.int .i64 mark, .int .i64 span] w fun e w' => e = .returned (.int .i64 (untilF mark span)) ∧ w = w' := by
  have b1 := fits_of h1
  have b2 := fits_of h2
  clear h1 h2
  by_cases hm : mark = 1099511627776
  · subst hm
    go_enter Tryd.func69, Tryd.ntmps69
    go_wp2
    go_ret
    exact ⟨rfl, rfl⟩
  · have e1 : Hid (untilF mark span = mark - span) := by simp [untilF, hm, Hid]
    have hm' : mark < 1099511627776 := by omega
    clear hm
    go_enter Tryd.func69, Tryd.ntmps69
    go_wp2
    go_ret
    exact ⟨by rw [e1.out]; rfl, rfl⟩

end Go.Proofs.YtelmlagolmabpaaDoor.tm
