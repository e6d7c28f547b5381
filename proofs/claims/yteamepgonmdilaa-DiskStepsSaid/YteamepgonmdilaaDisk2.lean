/-
  Contracts of package disk: Check and what it calls; New; the changes of one slot.
-/
import Derived.Test.YteamepgonmdilaaDisk1
namespace Go.Proofs.Yteamepgonmdilaa
open Go.RowKit

set_option maxHeartbeats 400000 in
theorem check1_any (s : Slot) (w : World) :
    Calls Try.prog 40 #[.agg #[.string s.safe, .string s.wait, .bool s.has]] w fun e w' => e = .returned (.bool s.bad) ∧ Below w.heap.size w w' := by
  cases h4 : s.has
  · cases h5 : s.wait.toList.isEmpty
    · have hbad : Hid (s.bad = true) := by simp [Slot.bad, h4, h5, Hid]
      go_enter Try.func40, Try.ntmps40
      go_wp2
      go_ret
      exact ⟨by rw [hbad.out]; rfl, below_alloc _ _⟩
    · have hbad : Hid (s.bad = false) := by simp [Slot.bad, h4, h5, Hid]
      go_enter Try.func40, Try.ntmps40
      go_wp2
      go_ret
      exact ⟨by rw [hbad.out]; rfl, below_alloc _ _⟩
  · have hbad : Hid (s.bad = false) := by simp [Slot.bad, h4, Hid]
    go_enter Try.func40, Try.ntmps40
    go_wp2
    go_ret
    exact ⟨by rw [hbad.out]; rfl, below_alloc _ _⟩

def idxB (l : List Slot) : Int := if l.any Slot.bad then (l.findIdx Slot.bad : Nat) else -1
theorem idx_bad {l : List Slot} {k : Nat} {s : Slot} (hs : l[k]? = some s) (h : ∀ x ∈ l.take k, x.bad = false) (hb : s.bad = true) : idxB l = (k : Int) := by
  obtain ⟨hk, e⟩ := List.getElem?_eq_some_iff.1 hs
  unfold idxB
  rw [if_pos (List.any_eq_true.2 ⟨s, List.mem_of_getElem? hs, hb⟩)]
  have : l.findIdx Slot.bad = k := by
    rw [List.findIdx_eq hk, e]
    refine ⟨hb, fun j hj => ?_⟩
    exact h _ (List.mem_take_iff_getElem.2 ⟨j, by omega, rfl⟩)
  rw [this]
theorem idx_ok {l : List Slot} (h : ∀ x ∈ l, x.bad = false) : idxB l = -1 := by
  unfold idxB
  rw [if_neg]
  simpa using h
theorem idx_sign (l : List Slot) : decide (0 ≤ idxB l) = l.any Slot.bad := by
  unfold idxB
  cases l.any Slot.bad <;> simp

set_option maxHeartbeats 1000000 in
theorem indexFunc_any (v : Value) (l : List Slot) (w : World) (h : Sl w v l.length (slotCells l)) :
    Calls Try.prog 43 #[v, .func (Fn.func 40) #[] #[]] w fun e w' => e = .returned (.int .i64 (idxB l)) ∧ Below w.heap.size w w' := by
  have h0 := h
  obtain ⟨A, c, rfl, h1, h2, -⟩ := h
  have h := Lib.hid h0
  clear h0
  unfold maxLen at h2
  go_enter Try.func43, Try.ntmps43
  go_wp2
  go_loopw [5, 8] (fun _ i wr => ∃ k : Nat, k ≤ l.length ∧ i = .int .i64 k ∧ Hid (∀ x ∈ l.take k, x.bad = false) ∧ Below w.heap.size w wr) (fun _ i _ => l.length - (intOf i).toNat)
  case atStart => exact ⟨0, by omega, rfl, by simp [Hid], Below.refl _ _⟩
  case round =>
    obtain ⟨k, hk, rfl, H, hbw⟩ := hrel
    by_cases hlt : k < l.length
    · obtain ⟨b, off, s, rfl, hs, hb, hc⟩ := slot_at h.out rfl hlt
      obtain ⟨c1, c2, c3⟩ := hc _ hbw
      have HS := Lib.hid hs
      clear hs hc
      cases h6 : s.bad
      · have hbad := Lib.hid h6
        go_wp2_with (go_at_call 40; refine (check1_any s _).mono ?_; rintro e w' ⟨rfl, hbw'⟩)
        go_roundw
        case rel => exact ⟨k + 1, by omega, by go_num, any_take HS.out H.out hbad.out, hbw.trans (hbw'.mono hbw.size)⟩
        case measure => simp [intOf]; omega
      · have hbad := Lib.hid h6
        go_wp2_with (go_at_call 40; refine (check1_any s _).mono ?_; rintro e w' ⟨rfl, hbw'⟩)
        go_ret
        exact ⟨ret_int (idx_bad HS.out H.out hbad.out).symm, hbw.trans (hbw'.mono hbw.size)⟩
    · obtain rfl : k = l.length := by omega
      go_wp2
      go_ret
      exact ⟨ret_int (idx_ok (by simpa [Hid] using H)).symm, hbw⟩

set_option maxHeartbeats 400000 in
theorem containsFunc_any (v : Value) (l : List Slot) (w : World) (h : Sl w v l.length (slotCells l)) :
    Calls Try.prog 39 #[v, .func (Fn.func 40) #[] #[]] w fun e w' => e = .returned (.bool (l.any Slot.bad)) ∧ Below w.heap.size w w' := by
  have h' := Lib.hid h
  have E := Lib.hid (idx_sign l)
  clear h
  go_enter Try.func39, Try.ntmps39
  go_wp2_with (go_at_call 43; refine (indexFunc_any _ l _ h'.out).mono ?_; rintro e w' ⟨rfl, hbw'⟩)
  go_ret
  exact ⟨ret_bool E.out, hbw'⟩

end Go.Proofs.Yteamepgonmdilaa
