/-
  Contracts of package disk and its reference: the checks.
-/
import Derived.Test.YteamepgonmdilaaBase
namespace Go.Proofs.Yteamepgonmdilaa
open Go.RowKit

structure Slot where
  safe : ByteArray
  wait : ByteArray
  has : Bool
def Slot.cells (s : Slot) : List Value := [.string s.safe, .string s.wait, .bool s.has]
def slotCells (l : List Slot) : List Value := l.flatMap Slot.cells
def Slot.bad (s : Slot) : Bool := !s.has && !s.wait.toList.isEmpty
def checkD (l : List Slot) : Int := if l.length < 1 ∨ 8 < l.length then 2 else if l.any Slot.bad then 1 else 0

theorem slotCells_at (l : List Slot) (k : Nat) (hk : k < l.length) : (slotCells l)[3 * k]? = some (.string l[k].safe) ∧ (slotCells l)[3 * k + 1]? = some (.string l[k].wait) ∧ (slotCells l)[3 * k + 2]? = some (.bool l[k].has) := by
  induction l generalizing k with
  | nil => simp at hk
  | cons s l ih =>
    cases k with
    | zero => simp [slotCells, Slot.cells]
    | succ k =>
      have := ih k (by simpa using hk)
      have e : slotCells (s :: l) = [.string s.safe, .string s.wait, .bool s.has] ++ slotCells l := by simp [slotCells, Slot.cells]
      rw [e]
      simp only [List.getElem?_append, List.length_cons, List.length_nil]
      rw [if_neg (by omega), if_neg (by omega), if_neg (by omega), show 3 * (k + 1) - 3 = 3 * k from by omega, show 3 * (k + 1) + 1 - 3 = 3 * k + 1 from by omega, show 3 * (k + 1) + 2 - 3 = 3 * k + 2 from by omega]
      simpa using this

/-- What a round at k reads. -/
theorem slot_at {w : World} {l : List Slot} {v : Value} (h : Sl w v l.length (slotCells l)) {A : Option Addr} {n c : Nat} (hv : v = .slice A n c) {k : Nat} (hk : k < l.length) :
    ∃ b off s, A = some ⟨b, off, none⟩ ∧ l[k]? = some s ∧ b < w.heap.size ∧ ∀ w', Below w.heap.size w w' →
      w'.cell? ⟨b, off + k * 3, none⟩ = some (.string s.safe) ∧ w'.cell? ⟨b, off + k * 3 + 1, none⟩ = some (.string s.wait) ∧ w'.cell? ⟨b, off + k * 3 + 2, none⟩ = some (.bool s.has) := by
  obtain ⟨A', c', hv', h1, h2, -, h3⟩ := h
  rw [hv] at hv'
  injection hv' with e1 e2 e3
  subst e1
  obtain ⟨a1, a2, a3⟩ := slotCells_at l k hk
  obtain ⟨b, off, hA, hc⟩ := h3 (by intro h0; rw [h0] at a1; simp at a1)
  rw [Nat.mul_comm] at a1 a2 a3
  have c1 := hc _ _ a1
  have c2 := hc _ _ a2
  have c3 := hc _ _ a3
  refine ⟨b, off, l[k], hA, List.getElem?_eq_getElem hk, World.block_lt_of_cell? w _ c1, fun w' hb => ?_⟩
  exact ⟨cell_below hb c1, cell_below hb c2, cell_below hb c3⟩

set_option maxHeartbeats 400000 in
theorem within_any (a b c : Int) (w : World) :
    Calls Try.prog 38 #[.int .i64 a, .int .i64 b, .int .i64 c] w fun e w' => e = .returned (.bool (decide (b ≤ a ∧ a ≤ c))) ∧ w = w' := by
  by_cases h1 : b ≤ a
  · go_enter Try.func38, Try.ntmps38
    go_wp2
    go_ret
    exact ⟨ret_bool (by simp [h1]), rfl⟩
  · go_enter Try.func38, Try.ntmps38
    go_wp2
    go_ret
    exact ⟨ret_bool (by simp; omega), rfl⟩

theorem any_take {l : List Slot} {k : Nat} {s : Slot} (hs : l[k]? = some s) (h : ∀ x ∈ l.take k, x.bad = false) (hb : s.bad = false) : ∀ x ∈ l.take (k + 1), x.bad = false := by
  rw [List.take_add_one, hs]
  intro x hx
  rcases List.mem_append.1 hx with hx | hx
  · exact h x hx
  · simp at hx; subst hx; exact hb
theorem check_bad {l : List Slot} {k : Nat} {s : Slot} (hl : ¬ (l.length < 1 ∨ 8 < l.length)) (hs : l[k]? = some s) (hb : s.bad = true) : checkD l = 1 := by
  unfold checkD
  rw [if_neg hl, if_pos]
  exact List.any_eq_true.2 ⟨s, List.mem_of_getElem? hs, hb⟩
theorem check_ok {l : List Slot} (hl : ¬ (l.length < 1 ∨ 8 < l.length)) (h : ∀ x ∈ l, x.bad = false) : checkD l = 0 := by
  unfold checkD
  rw [if_neg hl, if_neg]
  simpa using h

set_option maxHeartbeats 1000000 in
theorem rcheck_any (v : Value) (l : List Slot) (w : World) (h : Sl w v l.length (slotCells l)) :
    Calls Try.prog 27 #[.agg #[v]] w fun e w' => e = .returned (.int .i64 (checkD l)) ∧ Below w.heap.size w w' := by
  have h0 := h
  obtain ⟨A, c, rfl, h1, h2, -⟩ := h
  have h := Lib.hid h0
  clear h0
  unfold maxLen at h2
  by_cases hn : l.length < 1 ∨ 8 < l.length
  · have e1 : Hid (checkD l = 2) := if_pos hn
    have e2 : decide ((1 : Int) ≤ (l.length : Int) ∧ (l.length : Int) ≤ 8) = false := by simp; omega
    clear hn
    go_enter Try.func27, Try.ntmps27
    go_wp2_with (go_at_call 38; refine (within_any _ _ _ _).mono ?_; rintro e w' ⟨rfl, rfl⟩)
    go_ret
    exact ⟨by rw [e1.out]; rfl, below_alloc _ _⟩
  · have e2 : decide ((1 : Int) ≤ (l.length : Int) ∧ (l.length : Int) ≤ 8) = true := by simp; omega
    have Hn := Lib.hid hn
    clear hn
    go_enter Try.func27, Try.ntmps27
    go_wp2_with (go_at_call 38; refine (within_any _ _ _ _).mono ?_; rintro e w' ⟨rfl, rfl⟩)
    clear e2
    go_loop [3] (fun i => ∃ k : Nat, k ≤ l.length ∧ i = .int .i64 k ∧ Hid (∀ x ∈ l.take k, x.bad = false)) (fun i => l.length - (intOf i).toNat)
    case atStart => exact ⟨0, by omega, rfl, by simp [Hid]⟩
    case round =>
      obtain ⟨k, hk, rfl, H⟩ := hrel
      by_cases hlt : k < l.length
      · obtain ⟨b, off, s, rfl, hs, hb, hc⟩ := slot_at h.out rfl hlt
        obtain ⟨c1, c2, c3⟩ := hc _ (below_alloc w (.cells #[.slice (some ⟨b, off, none⟩) l.length c] 37))
        have HS := Lib.hid hs
        clear hs hc c1
        cases h4 : s.has
        · rw [h4] at c3
          cases h5 : s.wait.toList.isEmpty
          · have hbad : Hid (s.bad = true) := by simp [Slot.bad, h4, h5, Hid]
            go_wp2
            go_ret
            exact ⟨by rw [check_bad Hn.out HS.out hbad.out]; rfl, below_alloc _ _⟩
          · have hbad : Hid (s.bad = false) := by simp [Slot.bad, h4, h5, Hid]
            go_wp2
            go_round
            case rel => exact ⟨k + 1, by omega, by go_num, any_take HS.out H.out hbad.out⟩
            case measure => simp [intOf]; omega
        · rw [h4] at c3
          have hbad : Hid (s.bad = false) := by simp [Slot.bad, h4, Hid]
          go_wp2
          go_round
          case rel => exact ⟨k + 1, by omega, by go_num, any_take HS.out H.out hbad.out⟩
          case measure => simp [intOf]; omega
      · obtain rfl : k = l.length := by omega
        go_wp2
        go_ret
        exact ⟨by rw [check_ok Hn.out (by simpa [Hid] using H)]; rfl, below_alloc _ _⟩

end Go.Proofs.Yteamepgonmdilaa
