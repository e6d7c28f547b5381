/-
  Contracts of package disk: a slot turned in a row of the call's own.
-/
import Derived.Test.YteamepgonmdilaaDisk3
namespace Go.Proofs.Yteamepgonmdilaa
open Go.RowKit

set_option maxHeartbeats 400000 in
theorem write1_any (g o bt : Nat) (text : ByteArray) (u1 u2 : Value) (w : World) (h1 : w.cell? ⟨g, o + 1, none⟩ = some u1) (h2 : w.cell? ⟨g, o + 2, none⟩ = some u2)
    (f1 : w.frozen? ⟨g, o + 1, none⟩ = false) (f2 : w.frozen? ⟨g, o + 2, none⟩ = false) (ht : w.cell? ⟨bt, 0, none⟩ = some (.string text)) :
    Calls Try.prog 36 #[.pointer (some ⟨g, o, none⟩), .pointer (some ⟨bt, 0, none⟩)] w fun e w' => e = .returned (.tuple #[]) ∧ (w.setCell ⟨g, o + 1, none⟩ (.string text)).setCell ⟨g, o + 2, none⟩ (.bool true) = w' := by
  go_enter Try.func36, Try.ntmps36
  go_wp2
  go_end0
  exact ⟨rfl, rfl⟩

set_option maxHeartbeats 400000 in
theorem settle_any (g o : Nat) (s : Slot) (w : World) (h0 : w.cell? ⟨g, o, none⟩ = some (.string s.safe)) (h1 : w.cell? ⟨g, o + 1, none⟩ = some (.string s.wait)) (h2 : w.cell? ⟨g, o + 2, none⟩ = some (.bool s.has))
    (f0 : w.frozen? ⟨g, o, none⟩ = false) (f1 : w.frozen? ⟨g, o + 1, none⟩ = false) (f2 : w.frozen? ⟨g, o + 2, none⟩ = false) :
    Calls Try.prog 37 #[.pointer (some ⟨g, o, none⟩)] w fun e w' => e = .returned (.tuple #[]) ∧ (if s.has then ((w.setCell ⟨g, o, none⟩ (.string s.wait)).setCell ⟨g, o + 1, none⟩ (.string ⟨#[]⟩)).setCell ⟨g, o + 2, none⟩ (.bool false) else w) = w' := by
  cases h : s.has
  · rw [h] at h2
    go_enter Try.func37, Try.ntmps37
    go_wp2
    go_end0
    exact ⟨rfl, rfl⟩
  · rw [h] at h2
    go_enter Try.func37, Try.ntmps37
    go_wp2
    go_end0
    exact ⟨rfl, rfl⟩


theorem slotCells_set (l : List Slot) (k : Nat) (s : Slot) (hk : k < l.length) :
    (((slotCells l).set (k * 3) (.string s.safe)).set (k * 3 + 1) (.string s.wait)).set (k * 3 + 2) (.bool s.has) = slotCells (l.set k s) := by
  induction l generalizing k with
  | nil => simp at hk
  | cons a l ih =>
    cases k with
    | zero => simp [slotCells, Slot.cells]
    | succ k =>
      have := ih k (by simpa using hk)
      have e1 : slotCells (a :: l) = .string a.safe :: .string a.wait :: .bool a.has :: slotCells l := by simp [slotCells, Slot.cells]
      have e2 : slotCells ((a :: l).set (k + 1) s) = .string a.safe :: .string a.wait :: .bool a.has :: slotCells (l.set k s) := by simp [slotCells, Slot.cells]
      rw [e1, e2, ← this]
      have a1 : (k + 1) * 3 = k * 3 + 1 + 1 + 1 := by omega
      have a2 : (k + 1) * 3 + 1 = (k * 3 + 1) + 1 + 1 + 1 := by omega
      have a3 : (k + 1) * 3 + 2 = (k * 3 + 2) + 1 + 1 + 1 := by omega
      rw [a2, a3, a1]
      rfl
theorem set_same {α} (l : List α) (k : Nat) (a : α) (h : l[k]? = some a) : l.set k a = l := by
  obtain ⟨hk, e⟩ := List.getElem?_eq_some_iff.1 h
  subst e
  exact List.set_getElem_self hk

def TurnOk (w : World) (g cap base n : Nat) (l' : List Slot) (e : Ending) (w' : World) : Prop :=
  e = .returned (.tuple #[]) ∧ w'.ownsRow base 57 3 (.slice (some ⟨g, 0, none⟩) n cap) n (slotCells l') ∧ w.grownBy w' (some g)

theorem grown_two {a b c : World} {r : Option Nat} (h : a.grownBy b r) (k : b.grownBy c r) : a.grownBy c r :=
  ⟨k.os.trans h.os, k.tape.trans h.tape, k.output.trans h.output, Nat.le_trans h.size k.size, fun i hi hne => (k.block i (Nat.lt_of_lt_of_le hi h.size) hne).trans (h.block i hi hne)⟩

def writeS (text : ByteArray) (s : Slot) : Slot := { s with wait := text, has := true }
def settleS (s : Slot) : Slot := if s.has then { safe := s.wait, wait := ⟨#[]⟩, has := false } else s

theorem own_slot {w : World} {base g n cap : Nat} {l : List Slot} (h : w.ownsRow base 57 3 (.slice (some ⟨g, 0, none⟩) n cap) n (slotCells l)) (hl : l.length = n) {k : Nat} {s : Slot} (hk : l[k]? = some s) :
    w.cell? ⟨g, k * 3, none⟩ = some (.string s.safe) ∧ w.cell? ⟨g, k * 3 + 1, none⟩ = some (.string s.wait) ∧ w.cell? ⟨g, k * 3 + 2, none⟩ = some (.bool s.has) := by
  obtain ⟨hlt, rfl⟩ := List.getElem?_eq_some_iff.1 hk
  obtain ⟨a1, a2, a3⟩ := slotCells_at l k hlt
  rw [Nat.mul_comm] at a1 a2 a3
  exact ⟨by rw [h.cellAt _ (by omega), a1], by rw [h.cellAt _ (by omega), a2], by rw [h.cellAt _ (by omega), a3]⟩

theorem write1_own (g cap base n k : Nat) (text : ByteArray) (bt : Nat) (l : List Slot) (s : Slot) (w : World) (h : w.ownsRow base 57 3 (.slice (some ⟨g, 0, none⟩) n cap) n (slotCells l)) (hl : l.length = n) (hk : l[k]? = some s)
    (ht : w.cell? ⟨bt, 0, none⟩ = some (.string text)) :
    Calls Try.prog 36 #[.pointer (some ⟨g, k * 3, none⟩), .pointer (some ⟨bt, 0, none⟩)] w (TurnOk w g cap base n (l.set k (writeS text s))) := by
  obtain ⟨c1, c2, c3⟩ := own_slot h hl hk
  refine (write1_any g (k * 3) bt text _ _ w c2 c3 (h.frozenAt _) (h.frozenAt _) ht).mono ?_
  rintro e w' ⟨rfl, rfl⟩
  obtain ⟨hlt, hke⟩ := List.getElem?_eq_some_iff.1 hk
  obtain ⟨s1, g1⟩ := h.stored (k * 3 + 1) (.string text)
  obtain ⟨s2, g2⟩ := s1.stored (k * 3 + 2) (.bool true)
  refine ⟨rfl, ?_, grown_two g1 g2⟩
  have e := slotCells_set l k (writeS text s) hlt
  rw [set_same (slotCells l) (k * 3)] at e
  · rw [← e]; exact s2
  · obtain ⟨a1, -, -⟩ := slotCells_at l k hlt
    rw [Nat.mul_comm] at a1
    rw [a1, hke]
    rfl

theorem settle_own (g cap base n k : Nat) (l : List Slot) (s : Slot) (w : World) (h : w.ownsRow base 57 3 (.slice (some ⟨g, 0, none⟩) n cap) n (slotCells l)) (hl : l.length = n) (hk : l[k]? = some s) :
    Calls Try.prog 37 #[.pointer (some ⟨g, k * 3, none⟩)] w (TurnOk w g cap base n (l.set k (settleS s))) := by
  obtain ⟨c1, c2, c3⟩ := own_slot h hl hk
  refine (settle_any g (k * 3) s w c1 c2 c3 (h.frozenAt _) (h.frozenAt _) (h.frozenAt _)).mono ?_
  rintro e w' ⟨rfl, rfl⟩
  obtain ⟨hlt, hke⟩ := List.getElem?_eq_some_iff.1 hk
  cases hs : s.has
  · refine ⟨rfl, ?_, ?_⟩
    · rw [show settleS s = s from by simp [settleS, hs], set_same l k s hk]
      exact h
    · exact World.grownBy.refl w _
  · obtain ⟨s0, g0⟩ := h.stored (k * 3) (.string s.wait)
    obtain ⟨s1, g1⟩ := s0.stored (k * 3 + 1) (.string ⟨#[]⟩)
    obtain ⟨s2, g2⟩ := s1.stored (k * 3 + 2) (.bool false)
    refine ⟨rfl, ?_, grown_two (grown_two g0 g1) g2⟩
    have e := slotCells_set l k (settleS s) hlt
    rw [← e]
    have e3 : settleS s = ⟨s.wait, ⟨#[]⟩, false⟩ := by simp [settleS, hs]
    rw [e3]
    exact s2

end Go.Proofs.Yteamepgonmdilaa
